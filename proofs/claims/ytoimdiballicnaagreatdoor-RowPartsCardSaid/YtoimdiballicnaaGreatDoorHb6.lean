/- A part of the proof: Jd, Jh, Ji, Jw, Jz, Jx, Jy0, Jl, Jl2, Jm. -/
import Derived.BigQuiet
import Derived.StillTailTactics
import Derived.Deep.CutBlock
import Derived.Test.YtoimdiballicnaaGreatDoorHb3
import Derived.Test.YtoimdiballicnaaGreatDoorHb4
namespace Go.Proofs.YtoimdiballicnaaGreatDoor
open Go.RowKit
set_option linter.all false
set_option maxHeartbeats 16000000
set_option maxRecDepth 100000
theorem aok_up{G:Ctx}{A:Ab}(h:AOk G A){n m:Int}(hn:A.most<n)(hm:n≤m):Le G (G.up n .ty)∧AOk (G.up n .ty) { A with most:=m }:=by
 have h0:=h.hi n hn
 have hle:Le G (G.up n .ty):=fun v hv=>up_ne _ _ (fun e=>by subst e;exact hv h0)
 have hpos:Pos (G.up n .ty):=fun v hv=>by
  by_cases e:v=n
  ·have:=h.mo;omega
  ·rw[up_ne _ _ e] at hv;exact h.pos v hv
 have hri:Rise (G.up n .ty):=fun v k' L' hv=>by
  by_cases e:v=n
  ·subst e;rw[up_self] at hv;cases hv
  ·rw[up_ne _ _ e] at hv;exact h.ri v k' L' hv
 refine⟨hle,h.so,?_,wfT_le hle h.wa,wfT_le hle h.wb,hpos,hri,?_,?_,?_,?_,?_⟩
 ·refine⟨fun v hv=>?_,fun p hp=>?_,fun r k' L' hr=>?_,h.sw.ok⟩
  ·by_cases e:v=n
   ·have hid:A.s.ty v = .var v:=by
     apply Classical.byContradiction
     intro hne
     have:=h.rt v hne
     rw[e,h0] at this;cases this
    show WfT _ (A.s.ty v)
    rw[hid,TyT.var,WfT]
    exact⟨rfl,fun _=>⟨hpos v (by rw[hv];simp),hv⟩,fun c=>absurd rfl c,trivial,trivial,by rw[if_neg (by decide)];exact⟨rfl,rfl⟩⟩
   ·rw[up_ne _ _ e] at hv;exact wfT_le hle (h.sw.ty v hv)
  ·by_cases e:p=n
   ·subst e;rw[up_self] at hp;cases hp
   ·rw[up_ne _ _ e] at hp
    rcases h.sw.pr p hp with q|q|⟨q1,q2,q3⟩
    ·exact .inl q
    ·exact .inr (.inl q)
    ·exact .inr (.inr ⟨q1,q2,by rw[hle _ (by rw[q3];simp),q3]⟩)
  ·by_cases e:r=n
   ·subst e;rw[up_self] at hr;cases hr
   ·rw[up_ne _ _ e] at hr
    obtain⟨q1,q2,q3,q4⟩:=h.sw.rw_ r k' L' hr
    exact⟨wfFs_le hle q1,q2,q3,q4.le hle⟩
 ·intro v hv
  have hv:m<v:=hv
  rw[up_ne _ _ (by omega)];exact h.hi v (by omega)
 ·intro v hv;have:=h.rt v hv;rw[hle v (by rw[this];simp)];exact this
 ·intro v hv;have:=h.rp v hv;rw[hle v (by rw[this];simp)];exact this
 ·intro v hv
  obtain⟨k2,L2,e2⟩:=h.rr v hv
  exact⟨k2,L2,by rw[hle v (by rw[e2];simp)];exact e2⟩
 ·show 0≤m
  have:=h.mo;omega
theorem aok_ab{G:Ctx}{A:Ab}(h:AOk G A){a b:TyT}(wa:WfT G a)(wb:WfT G b):AOk G { A with a:=a,b:=b } :=
 ⟨h.so,h.sw,wa,wb,h.pos,h.ri,h.hi,h.rt,h.rp,h.rr,h.mo⟩
theorem nd_len{α:Type} [DecidableEq α]:∀ {m l:List α},m.Nodup→(∀ x ∈ m,x ∈ l)→m.length≤l.length
 | [],_,_,_=>Nat.zero_le _
 | x::m,l,h,hs=>by
  rw[List.nodup_cons] at h
  have h1:=nd_len (l:=l.erase x) h.2 (fun y hy=>(List.mem_erase_of_ne (fun(e:y=x)=>h.1 (by rw[← e];exact hy))).2 (hs y (by simp[hy])))
  have hx:x ∈ l:=hs x (by simp)
  have h2:=List.length_pos_of_mem hx
  rw[List.length_erase_of_mem hx] at h1
  rw[List.length_cons];omega
mutual
def labT:TyT→List (List UInt8)
 | .mk _ _ args fs _=>labTs args++labFs fs
def labTs:List TyT→List (List UInt8)
 | []=>[]
 | x::l=>labT x++labTs l
def labFs:List Fd→List (List UInt8)
 | []=>[]
 | f::l=>labF f++labFs l
def labF:Fd→List (List UInt8)
 | ⟨lb,_,_,t⟩=>lb::labT t
end
mutual
theorem labT_len{G:Ctx}:∀ {t:TyT},WfT G t→(labT t).length≤szT t
 | .mk k v args fs rest,h=>by
  rw[WfT] at h
  have h1:=labTs_len h.2.2.2.1
  have h2:=labFs_len h.2.2.2.2.1
  rw[labT,szT,List.length_append];omega
theorem labTs_len{G:Ctx}:∀ {t:List TyT},WfTs G t→(labTs t).length≤szTs t
 | [],_=>Nat.le_refl _
 | x::l,h=>by rw[WfTs] at h;rw[labTs,szTs,List.length_append];have:=labT_len h.1;have:=labTs_len h.2;omega
theorem labFs_len{G:Ctx}:∀ {t:List Fd},WfFs G t→(labFs t).length≤szFs t
 | [],_=>Nat.le_refl _
 | x::l,h=>by rw[WfFs] at h;rw[labFs,szFs,List.length_append];have:=labF_len h.1;have:=labFs_len h.2;omega
theorem labF_len{G:Ctx}:∀ {t:Fd},WfF G t→(labF t).length≤szF t
 | ⟨lb,pr,p,t⟩,h=>by
  rw[WfF] at h
  rw[labF,szF,List.length_cons]
  rcases h with⟨rfl,_,rfl⟩| ⟨rfl,_,h⟩| ⟨rfl,_,_,h⟩
  ·rw[if_pos rfl];simp[TyT.zero,labT,labTs,labFs]
  ·rw[if_neg (by decide)];have:=labT_len h;omega
  ·rw[if_neg (by decide)];have:=labT_len h;omega
end
section
attribute [local go_sem ↓] Go.wp_at_zero Go.wp_at_succ
section
variable [LoB]
attribute [local instance] Ex.no
theorem sameNow_key{k:Int}{v:Value}(h:Instr.sameNow (.int .i64) (.int .i64 k) v=some true):v = .int .i64 k:=by
 unfold Instr.sameNow at h
 split at h
 ·rename_i e1 e2
  cases e2
  split at h
  ·rename_i e3
   simp at h
   rw[e3,h]
  ·cases h
 ·rename_i e;cases e
 ·rename_i e;cases e
 ·cases h
theorem findNow_ge{t:TypeDesc}{k:Value}:∀ {l:List MapEntry}{i:Nat}{p:Nat×Value},Instr.findNow t k l i=some (some p)→i≤p.1
 | [],i,p,h=>by cases h
 | e::l,i,p,h=>by
  rw[Instr.findNow] at h
  revert h
  cases Instr.sameNow t k e.key with
  | none=>intro h;cases h
  | some b =>
   cases b with
   | true=>intro h;cases h;exact Nat.le_refl _
   | false=>intro h;have:=findNow_ge h;omega
theorem findNow_at{k:Int}:∀ {l:List MapEntry}{i:Nat}{p:Nat×Value},Instr.findNow (.int .i64) (.int .i64 k) l i=some (some p)→∃ e,l[p.1-i]?=some e∧e.key = .int .i64 k
 | [],i,p,h=>by cases h
 | e::l,i,p,h=>by
  rw[Instr.findNow] at h
  revert h
  cases hs:Instr.sameNow (.int .i64) (.int .i64 k) e.key with
  | none=>intro h;cases h
  | some b =>
   cases b with
   | true=>intro h;cases h;exact⟨e,by simp,sameNow_key hs⟩
   | false =>
    intro h
    have h1:=findNow_ge h
    obtain⟨e',h2,h3⟩:=findNow_at h
    refine⟨e',?_,h3⟩
    rw[show p.1-i=p.1-(i+1)+1 by omega]
    simpa using h2
theorem findNow_mod{t:TypeDesc}{k v:Value}:∀ {l:List MapEntry}{i j:Nat},Instr.findNow t k (l.modify j (fun e=>{ e with val:=v })) i=(Instr.findNow t k l i).map (fun o=>o.map (fun p=>if p.1=i+j then (p.1,v)else p))
 | [],i,j=>by simp[Instr.findNow]
 | e::l,i,0=>by
  rw[List.modify_zero_cons,Instr.findNow,Instr.findNow]
  cases Instr.sameNow t k e.key with
  | none=>rfl
  | some b =>
   cases b with
   | true=>simp
   | false =>
    dsimp only
    cases h:Instr.findNow t k l (i+1)with
    | none=>rfl
    | some o =>
     cases o with
     | none=>rfl
     | some p =>
      have:=findNow_ge h
      simp only[Option.map_some]
      rw[if_neg (by omega)]
 | e::l,i,j+1=>by
  rw[List.modify_succ_cons,Instr.findNow,Instr.findNow]
  cases Instr.sameNow t k e.key with
  | none=>rfl
  | some b =>
   cases b with
   | true =>
    simp only[Option.map_some]
    rw[if_neg (by omega)]
   | false =>
    dsimp only
    rw[findNow_mod,show i+1+j=i+(j+1) by omega]
theorem MpE.put{α:Type}{V:α→Value→Prop}{es:Array MapEntry}{l:List (Int×α)}(h:MpE V es l){k:Int}{x y:α}(hk:lk k l=some x){u:Value}(hu:V y u):∃ (j:Nat)(e:MapEntry),Instr.findNow (.int .i64) (.int .i64 k) es.toList 0=some (some (j,e.val))∧es[j]?=some e∧e.key = .int .i64 k∧MpE V (es.modify j (fun e=>{ e with key:=.int .i64 k,val:=u })) ((k,y)::l):=by
 obtain⟨j,u0,hf,_⟩:=h.is k x hk
 obtain⟨e,he,hek⟩:=findNow_at hf
 simp only[Nat.sub_zero] at he
 have hv:u0=e.val:=by
  clear hk h hu
  have key:∀ (l:List MapEntry) (i:Nat) (p:Nat×Value),Instr.findNow (.int .i64) (.int .i64 k) l i=some (some p)→∀ e,l[p.1-i]?=some e→p.2=e.val:=by
   intro l
   induction l with
   | nil=>intro i p h;cases h
   | cons a l ih =>
    intro i p h e he
    rw[Instr.findNow] at h
    revert h
    cases Instr.sameNow (.int .i64) (.int .i64 k) a.key with
    | none=>intro h;cases h
    | some b =>
     cases b with
     | true=>intro h;cases h;simp at he;rw[he]
     | false =>
      intro h
      have h1:=findNow_ge h
      refine ih (i+1) p h e ?_
      rw[show p.1-i=p.1-(i+1)+1 by omega] at he
      simpa using he
  exact key _ _ _ hf e (by simpa using he)
 have hej:es[j]?=some e:=by simpa using he
 have hmod:(es.modify j (fun e=>{ e with key:=.int .i64 k,val:=u })).toList=es.toList.modify j (fun e=>{ e with val:=u }):=by
  rw[Array.toList_modify]
  apply List.ext_getElem?
  intro i
  rw[List.getElem?_modify,List.getElem?_modify]
  by_cases c:j=i
  ·subst c
   rw[he]
   obtain⟨ek,ev,eb⟩:=e
   simp only at hek
   subst hek;simp
  ·simp[c]
 refine⟨j,e,by rw[← hv];exact hf,hej,hek,⟨fun n hn=>?_,fun n z hz=>?_⟩⟩
 ·rw[lk] at hn
  by_cases c:k=n
  ·rw[if_pos c] at hn;cases hn
  ·rw[if_neg c] at hn
   rw[hmod,findNow_mod,h.no n hn];rfl
 ·rw[lk] at hz
  rw[hmod,findNow_mod]
  by_cases c:k=n
  ·rw[if_pos c] at hz
   cases hz
   subst c
   rw[hf]
   exact⟨j,u,by simp,hu⟩
  ·rw[if_neg c] at hz
   obtain⟨i,u',h1,h2⟩:=h.is n z hz
   have hij:¬ i=0+j:=by
    intro hc
    obtain⟨e',g1,g2⟩:=findNow_at h1
    simp only[Nat.sub_zero] at g1
    rw[show i=j by omega,he] at g1
    cases g1
    rw[hek] at g2
    injection g2 with _ g2
    exact c g2
   rw[h1]
   exact⟨i,u',by simp only[Option.map_some];rw[if_neg hij],h2⟩
theorem map_over{T kt et:TypeId}(hT:Tryz.prog.underlying T=some (.map kt et))(hk:Tryz.prog.underlying kt=some (.int .i64)){x:World}{E:Nat}{es:Array MapEntry}{n j:Nat}{v:Int}{e:MapEntry}(u:Value)(hb:x.heap[E]?=some (.map es n))(hf:Instr.findNow (.int .i64) (.int .i64 v) es.toList 0=some (some (j,e.val)))(he:es[j]?=some e)(hek:e.key = .int .i64 v):
  (Instr.mapUpdate T (.map (some E)) (.int .i64 v) u).run Tryz.prog x = .ok () (mapW x E (.map (es.modify j (fun e=>{ e with key:=.int .i64 v,val:=u })) n)):=by
 have hb2:Instr.sameBits 10000 (.int .i64 v) (.int .i64 v)=true:=by simp[Instr.sameBits]
 simp[Instr.mapUpdate,run_underlying hT,run_underlying hk,MapKept.run_getObj_map hb,MapKept.run_setObj_map _ hb,run_checkKey_int hk _ 9999,Instr.findKey,hf,he,hek,Instr.keyThatStays,hb2,Result.andThen]
 rfl
def FcV(w:World)(base:Nat)(P:List UInt8→Prop):Fct→Value→Prop:=fun x u=>∃ (v r:Int)(B:Option Addr)(d:Nat)(fs:List Fd),FsAt w (· < base) P (.slice B fs.length d) fs∧labs fs=x.ls∧fs.length≤1073741824∧u = .agg #[.int .i64 v,.int .i64 x.kind,.int .i64 0,.int .i64 0,.slice none 0 0,.slice none 0 0,.int .i64 0,.int .i64 x.pres,.int .i64 0,.slice B fs.length d,.int .i64 r]
structure LookAt (w:World)(base:Nat)(P:List UInt8→Prop)(Lb Mb:Nat)(l:List (Int×Fct))(b:Bool):Prop where
 blk:w.heap[Lb]?=some (.cells #[.map (some Mb),.bool b] 76 (0,0))
 mp:MpAt w (FcV w base P) (some Mb) l
 lo:base≤Lb∧base≤Mb
section
variable {w w':World} {base Lb Mb:Nat} {P:List UInt8→Prop} {l:List (Int×Fct)} {b:Bool}
theorem FcV.keep(h:Below base w w'){x:Fct}{u:Value}(hx:FcV w base P x u):FcV w' base P x u:=by
 obtain⟨v,r,B,d,fs,h1,h2⟩:=hx
 exact⟨v,r,B,d,fs,h1.keep (shB h),h2⟩
theorem LookAt.ne(h:LookAt w base P Lb Mb l b):Lb≠Mb:=fun e=>by
 rcases h.mp with⟨c,_⟩| ⟨m,es,n,c,hm,_⟩
 ·cases c
 ·cases c;have:=h.blk;rw[e,hm] at this;cases this
theorem LookAt.lt(h:LookAt w base P Lb Mb l b):Lb<w.heap.size∧Mb<w.heap.size:=by
 refine⟨lt_of_heap h.blk,?_⟩
 rcases h.mp with⟨c,_⟩| ⟨m,es,n,c,hm,_⟩
 ·cases c
 ·cases c;exact lt_of_heap hm
theorem LookAt.fr0(h:LookAt w base P Lb Mb l b)(hf:Fr [] w w'):LookAt w' base P Lb Mb l b:=by
 have hb:Below base w w':=hf.below (by have:=h.lt;have:=h.lo;omega) (fun x hx=>by cases hx)
 exact⟨hf.keep h.blk (fun x=>by cases x),h.mp.keep hf (fun _ _ x=>by cases x) (fun x u hx=>hx.keep hb),h.lo⟩
theorem LookAt.cells(h:LookAt w base P Lb Mb l b):w.cell? ⟨Lb,0,none⟩=some (.map (some Mb))∧w.cell? ⟨Lb,1,none⟩=some (.bool b)∧w.frozen? ⟨Lb,1,none⟩=false:=by
 refine⟨?_,?_,frozen_of h.blk _⟩<;> rw[cell_of h.blk] <;> rfl
theorem LookAt.bad(h:LookAt w base P Lb Mb l b)(c:Bool):LookAt (w.setCell ⟨Lb,1,none⟩ (.bool c)) base P Lb Mb l c:=by
 have hf:Fr [Lb] w (w.setCell ⟨Lb,1,none⟩ (.bool c)):=(Fr.refl [Lb] w).setCell (p:=⟨Lb,1,none⟩) (.inl (by simp)) _
 have hb:Below base w (w.setCell ⟨Lb,1,none⟩ (.bool c)):=hf.below (by have:=h.lt;have:=h.lo;omega) (fun x hx=>by simp at hx;rw[hx];exact h.lo.1)
 refine⟨?_,h.mp.keep hf (fun m e hx=>by cases e;simp at hx;exact h.ne hx.symm) (fun x u hx=>hx.keep hb),h.lo⟩
 rw[setCell_at h.blk];rfl
theorem LookAt.setBad_fr(w:World)(Lb:Nat)(c:Bool):Fr [Lb] w (w.setCell ⟨Lb,1,none⟩ (.bool c)):=(Fr.refl [Lb] w).setCell (p:=⟨Lb,1,none⟩) (.inl (by simp)) _
theorem LookAt.put(h:LookAt w base P Lb Mb l b)(k:Int){x:Fct}{u:Value}(hu:FcV w base P x u):∃ w':World,(Instr.mapUpdate 74 (.map (some Mb)) (.int .i64 k) u).run Tryz.prog w = .ok () w'∧LookAt w' base P Lb Mb ((k,x)::l) b∧Fr [Mb] w w':=by
 rcases h.mp with⟨c,_⟩| ⟨m,es,n,c,hm,he⟩
 ·cases c
 cases c
 have hbel:∀ o,Below base w (mapW w Mb o):=fun o=>(mapW_fr w Mb o).below (by have:=h.lt;have:=h.lo;omega) (fun x hx=>by simp at hx;rw[hx];exact h.lo.2)
 have fin:∀ es' n',MpE (FcV w base P) es' ((k,x)::l)→LookAt (mapW w Mb (.map es' n')) base P Lb Mb ((k,x)::l) b:=fun es' n' he' =>
  ⟨(mapW_fr w Mb _).keep h.blk (by simp;exact h.ne),.inr ⟨Mb,es',n',rfl,mapW_at _ (lt_of_heap hm),he'.imp (fun y v hy=>hy.keep (hbel _))⟩,h.lo⟩
 cases hl:lk k l with
 | none =>
  refine⟨_,map_put Tryz.underlying74 Tryz.underlying3 u hm (he.no k hl),fin _ _ (he.push hl hu n),mapW_fr _ _ _⟩
 | some y =>
  obtain⟨j,e,h1,h2,h3,h4⟩:=he.put hl hu
  exact⟨_,map_over Tryz.underlying74 Tryz.underlying3 u hm h1 h2 h3,fin _ _ h4,mapW_fr _ _ _⟩
end
theorem zeroFc(w:World):(zeroValue 88).run Tryz.prog w = .ok (.agg #[.int .i64 0,.int .i64 0,.int .i64 0,.int .i64 0,.slice none 0 0,.slice none 0 0,.int .i64 0,.int .i64 0,.int .i64 0,.slice none 0 0,.int .i64 0]) w:=by kernel_rfl
end
section
variable [LoB]
attribute [local instance] Ex.no
theorem blank_any{w W:World}(hW:Fr [] w W)(t:TyT)(A B:Option Addr)(c d:Nat):
  Calls Tryz.prog 58 #[.agg #[.int .i64 t.k,.int .i64 t.v,.slice A t.args.length c,.slice B t.fs.length d,.int .i64 t.rest]] W fun e w'=>∃ b:Bool,e = .returned (.bool b)∧(b=true→t = .zero)∧Fr [] W w':=by
 obtain⟨k,v,args,fs,rest⟩:=t
 simp only[TyT.k,TyT.v,TyT.args,TyT.fs,TyT.rest]
 have HF:=Lib.hid ((Fr.refl [] W).alloc (.cells #[.int .i64 k,.int .i64 v,.slice A args.length c,.slice B fs.length d,.int .i64 rest] 27))
 have g0:=heap_new W (.cells #[.int .i64 k,.int .i64 v,.slice A args.length c,.slice B fs.length d,.int .i64 rest] 27)
 obtain⟨⟨l0,l1,l2,l3,l4⟩,_⟩:=cells5 g0
 have hgs:=lt_of_heap g0
 have hT:Hid (k=0→v=0→(args.length:Int)=0→(fs.length:Int)=0→rest=0→TyT.mk k v args fs rest = .zero):=Lib.hid (fun a b c d e=>by
  have h1:args=[]:=List.length_eq_zero_iff.1 (by omega)
  have h2:fs=[]:=List.length_eq_zero_iff.1 (by omega)
  rw[a,b,h1,h2,e];rfl)
 clear g0 hW
 by_cases h0:(k==0)=true
 ·by_cases h1:(v==0)=true
  ·by_cases h2:((args.length:Int)==0)=true
   ·by_cases h3:((fs.length:Int)==0)=true
    ·by_cases h4:(rest==0)=true
     ·have HH:Hid (TyT.mk k v args fs rest = .zero):=Lib.hid (hT.out (by simpa using h0) (by simpa using h1) (by simpa using h2) (by simpa using h3) (by simpa using h4))
      go_enter Tryz.func58,Tryz.ntmps58
      go_wp2_with fail
      go_ret
      exact⟨true,rfl,fun _=>HH.out,HF.out⟩
     ·have h4:(rest==0)=false:=by simpa using h4
      go_enter Tryz.func58,Tryz.ntmps58
      go_wp2_with fail
      go_ret
      exact⟨false,rfl,fun c=>(by cases c),HF.out⟩
    ·have h3:((fs.length:Int)==0)=false:=by simpa using h3
     go_enter Tryz.func58,Tryz.ntmps58
     go_wp2_with fail
     go_ret
     exact⟨false,rfl,fun c=>(by cases c),HF.out⟩
   ·have h2:((args.length:Int)==0)=false:=by simpa using h2
    go_enter Tryz.func58,Tryz.ntmps58
    go_wp2_with fail
    go_ret
    exact⟨false,rfl,fun c=>(by cases c),HF.out⟩
  ·have h1:(v==0)=false:=by simpa using h1
   go_enter Tryz.func58,Tryz.ntmps58
   go_wp2_with fail
   go_ret
   exact⟨false,rfl,fun c=>(by cases c),HF.out⟩
 ·have h0:(k==0)=false:=by simpa using h0
  go_enter Tryz.func58,Tryz.ntmps58
  go_wp2_with fail
  go_ret
  exact⟨false,rfl,fun c=>(by cases c),HF.out⟩
theorem rowed_any{W:World}(k v rest:Int)(A B:Option Addr)(n m c d:Nat):
  Calls Tryz.prog 57 #[.agg #[.int .i64 k,.int .i64 v,.slice A n c,.slice B m d,.int .i64 rest]] W fun e w'=>e = .returned (.bool (rwd k))∧Fr [] W w':=by
 have HF:=Lib.hid ((Fr.refl [] W).alloc (.cells #[.int .i64 k,.int .i64 v,.slice A n c,.slice B m d,.int .i64 rest] 27))
 have g0:=heap_new W (.cells #[.int .i64 k,.int .i64 v,.slice A n c,.slice B m d,.int .i64 rest] 27)
 obtain⟨⟨l0,l1,l2,l3,l4⟩,_⟩:=cells5 g0
 have hgs:=lt_of_heap g0
 clear g0
 cases h0:(k==10)with
 | true =>
  have HR:Hid (rwd k=true):=Lib.hid (by unfold rwd;rw[h0];rfl)
  go_enter Tryz.func57,Tryz.ntmps57
  go_wp2_with fail
  go_ret
  exact⟨by rw[HR.out];rfl,HF.out⟩
 | false =>
  obtain⟨b,hb⟩:∃ b,(k==11)=b:=⟨_,rfl⟩
  have HR:Hid (rwd k=b):=Lib.hid (by unfold rwd;rw[h0,hb];simp)
  cases b with
  | true =>
   go_enter Tryz.func57,Tryz.ntmps57
   go_wp2_with fail
   go_ret
   exact⟨by rw[HR.out];rfl,HF.out⟩
  | false =>
   go_enter Tryz.func57,Tryz.ntmps57
   go_wp2_with fail
   go_ret
   exact⟨by rw[HR.out];rfl,HF.out⟩
theorem alike_any{w W:World}(hW:Fr [] w W){ok ok':Nat→Prop}{P P':List UInt8→Prop}{fs gs:List Fd}{A B:Option Addr}{c d:Nat}(h:FsAt w ok P (.slice A fs.length c) fs)(h':FsAt w ok' P' (.slice B gs.length d) gs)(hl:fs.length≤1073741824):
  Calls Tryz.prog 59 #[.slice A fs.length c,.slice B gs.length d] W fun e w'=>∃ b:Bool,e = .returned (.bool b)∧(b=true→labs fs=labs gs)∧Fr [] W w':=by
 have H:=Lib.hid h
 have H':=Lib.hid h'
 have HW:=Lib.hid hW
 clear h h' hW
 by_cases he:(fs.length:Int)=gs.length
 ·have q0:((fs.length:Int)==gs.length)=true:=by simpa using he
  have q00:((fs.length:Int)!=gs.length)=false:=by simp[he]
  have HE:=Lib.hid he
  clear he
  go_enter Tryz.func59,Tryz.ntmps59
  go_wp2_with fail
  go_loopw [5] (fun iv wr=>∃ (i:Nat),iv = .int .i64 i∧i≤fs.length∧Hid (labs (fs.take i)=labs (gs.take i))∧Hid (Fr [] W wr)) (fun iv wr=>fs.length-(intOf iv).toNat)
  case atStart=>exact⟨0,rfl,by omega,Lib.hid rfl,Lib.hid (Fr.refl _ _)⟩
  case round =>
   obtain⟨i,rfl,hi,HL,HF⟩:=hrel
   have q1:(0:Int)≤(i:Int):=by omega
   by_cases hlt:i<fs.length
   ·have hlg:i<gs.length:=by have:=HE.out;omega
    have hx:fs[i]?=some fs[i]:=List.getElem?_eq_getElem hlt
    have hy:gs[i]?=some gs[i]:=List.getElem?_eq_getElem hlg
    generalize fs[i]=f at hx
    generalize gs[i]=g at hy
    have q2:(i:Int)<(fs.length:Int):=by omega
    have q3:(i:Int)<(gs.length:Int):=by omega
    obtain⟨b,ob,rfl,_,hb,_,_,_,_,_,x0,_⟩:=H.out.at hx
    obtain⟨b',ob',rfl,_,hb',_,_,_,_,_,y0,_⟩:=H'.out.at hy
    have fw:=HW.out.trans HF.out
    replace x0:=(fw.cell (p:=⟨b,ob+i * 8,none⟩) hb (fun x=>by cases x)).trans x0
    replace y0:=(fw.cell (p:=⟨b',ob'+i * 8,none⟩) hb' (fun x=>by cases x)).trans y0
    have hbw:b<wr.heap.size:=Nat.lt_of_lt_of_le hb fw.size
    have hbw':b' < wr.heap.size:=Nat.lt_of_lt_of_le hb' fw.size
    have hstep:f.lb=g.lb→labs (fs.take (i+1))=labs (gs.take (i+1)):=fun e=>by
     rw[List.take_add_one,List.take_add_one,hx,hy,labs_app,labs_app,HL.out]
     simp[labs,e]
    have HST:=Lib.hid hstep
    clear hx hy fw hstep
    by_cases e:f.lb=g.lb
    ·have HN:=Lib.hid (HST.out e)
     rw[← e] at y0
     clear e
     go_wp2_with fail
     go_quiet (fail)
     go_wp2_with fail
     go_roundw
     case rel=>exact⟨i+1,by first|rfl|simp|go_num,by omega,HN,Lib.hid (HF.out.trans ((Fr.refl [] wr).drewN _))⟩
     case measure=>simp[intOf];omega
    ·have e1:(f.lb==g.lb)=false:=beq_eq_false_iff_ne.2 e
     clear e HST
     go_wp2_with fail
     go_quiet (fail)
     go_wp2_with fail
     go_ret
     exact⟨false,rfl,fun c=>(by cases c),HF.out.trans ((Fr.refl [] wr).drewN _)⟩
   ·have q2:¬ (i:Int)<(fs.length:Int):=by omega
    have hlf:labs fs=labs gs:=by
     have:=HL.out
     rw[List.take_of_length_le (by omega),List.take_of_length_le (by have:=HE.out;omega)] at this
     exact this
    have HLF:=Lib.hid hlf
    clear hlf
    go_wp2_with fail
    go_ret
    first|exact⟨true,rfl,fun _=>HLF.out,HF.out⟩| exact .inr ⟨rfl,HLF.out,HF.out⟩
 ·have q0:((fs.length:Int)==gs.length)=false:=beq_eq_false_iff_ne.2 he
  have q00:((fs.length:Int)!=gs.length)=true:=by simp[he]
  clear he
  go_enter Tryz.func59,Tryz.ntmps59
  go_wp2_with fail
  go_ret
  exact⟨false,rfl,fun c=>(by cases c),Fr.refl _ _⟩
theorem rname_any{W:World}{base Lb Mb:Nat}{P:List UInt8→Prop}{l:List (Int×Fct)}{b:Bool}(h:LookAt W base P Lb Mb l b)(v kind:Int):
  Calls Tryz.prog 56 #[.pointer (some ⟨Lb,0,none⟩),.int .i64 v,.int .i64 kind] W fun e w'=>e = .returned (.tuple #[])∧LookAt w' base P Lb Mb (nameL l v kind) (b||nameBad l v kind)∧Fr [Lb,Mb] W w':=by
 have H:=Lib.hid h
 obtain⟨c0,c1,z1⟩:=h.cells
 have hlt:=h.lt.1
 have hne:=h.ne
 clear h
 go_enter Tryz.func56,Tryz.ntmps56
 go_upto_if 9 with(fail)
 go_cut [] (fun wx=>∃ b1:Bool,Hid (b1=(b||decide (v<1)))∧Hid (LookAt wx base P Lb Mb l b1)∧Hid (Fr [Lb,Mb] W wx))
 case first =>
  by_cases hv:v<1
  ·have HB:Hid (true=(b||decide (v<1))):=Lib.hid (by simp[hv])
   have HB2:=Lib.hid (H.out.bad true)
   have HB3:=Lib.hid ((LookAt.setBad_fr W Lb true).mono (L':=[Lb,Mb]) (fun x hx => .inl (by simp at hx;simp[hx])))
   go_wp2_with fail
   go_meet
   exact⟨true,HB,HB2,HB3⟩
  ·have HB:Hid (b=(b||decide (v<1))):=Lib.hid (by simp[hv])
   have HF:=Lib.hid (Fr.refl [Lb,Mb] W)
   go_wp2_with fail
   go_meet
   exact⟨b,HB,H,HF⟩
 case rest =>
  obtain⟨b1,HB1,HL,HF⟩:=hcut
  clear c0 c1 z1 hlt H
  obtain⟨c0,c1,z1⟩:=HL.out.cells
  have hlt:=HL.out.lt.1
  have hBB:nameBad l v kind=(decide (v<1)||(match lk v l with|some x=>x.kind != kind|none=>false)):=rfl
  cases hl:lk v l with
  | none =>
   rw[hl] at hBB
   have hz:=look_none Tryz.underlying74 Tryz.underlying3 HL.out.mp hl (zeroFc wc)
   have g0:=heap_new wc (.cells #[.int .i64 0,.int .i64 0,.int .i64 0,.int .i64 0,.slice none 0 0,.slice none 0 0,.int .i64 0,.int .i64 0,.int .i64 0,.slice none 0 0,.int .i64 0] 88)
   have f0:=(Fr.refl [] wc).alloc (.cells #[.int .i64 0,.int .i64 0,.int .i64 0,.int .i64 0,.slice none 0 0,.slice none 0 0,.int .i64 0,.int .i64 0,.int .i64 0,.slice none 0 0,.int .i64 0] 88)
   have hL0:=HL.out.fr0 f0
   obtain⟨w9,hput,hL9,hF9⟩:=hL0.put v (x:=⟨kind,0,[]⟩) (u:=.agg #[.int .i64 v,.int .i64 kind,.int .i64 0,.int .i64 0,.slice none 0 0,.slice none 0 0,.int .i64 0,.int .i64 0,.int .i64 0,.slice none 0 0,.int .i64 0]) ⟨v,0,none,0,[],FsAt.nil _ _,rfl,by simp,rfl⟩
   obtain⟨d0,d1,y1⟩:=hL0.cells
   have hgs:=lt_of_heap g0
   have hl0:=hL0.lt.1
   have HN:Hid (nameL l v kind=(v,⟨kind,0,[]⟩)::l):=Lib.hid (by unfold nameL;rw[hl])
   have HB2:Hid (b1=(b||nameBad l v kind)):=Lib.hid (by rw[hBB,HB1.out];simp)
   have HL9:=Lib.hid hL9
   have HF9:=Lib.hid ((HF.out.trans0 f0).trans (hF9.mono (L':=[Lb,Mb]) (fun x hx => .inl (by simp at hx;simp[hx]))))
   clear hL9 hF9 hL0 f0 g0 hBB hl HB1
   go_wp2_with fail
   go_end0
   exact⟨rfl,by rw[HN.out,← HB2.out];exact HL9.out,HF9.out⟩
  | some x =>
   rw[hl] at hBB
   obtain⟨u,⟨v',r,B,d,fs,g1,g2,g3,rfl⟩,hlook⟩:=look_some Tryz.underlying74 Tryz.underlying3 HL.out.mp hl
   have hz:=hlook wc (Fr.refl [] wc)
   have g0:=heap_new wc (.cells #[.int .i64 v',.int .i64 x.kind,.int .i64 0,.int .i64 0,.slice none 0 0,.slice none 0 0,.int .i64 0,.int .i64 x.pres,.int .i64 0,.slice B fs.length d,.int .i64 r] 88)
   have f0:=(Fr.refl [] wc).alloc (.cells #[.int .i64 v',.int .i64 x.kind,.int .i64 0,.int .i64 0,.slice none 0 0,.slice none 0 0,.int .i64 0,.int .i64 x.pres,.int .i64 0,.slice B fs.length d,.int .i64 r] 88)
   have hL0:=HL.out.fr0 f0
   obtain⟨d0,d1,y1⟩:=hL0.cells
   have hgs:=lt_of_heap g0
   have hl0:=hL0.lt.1
   have e1:=(cell_of g0 1).trans rfl
   have HN:Hid (nameL l v kind=l):=Lib.hid (by unfold nameL;rw[hl])
   have HLL:=Lib.hid hL0
   have HFF:=Lib.hid (HF.out.trans0 f0)
   by_cases hk:x.kind=kind
   ·have q1:(x.kind==kind)=true:=by simp[hk]
    have q2:(x.kind != kind)=false:=by simp[hk]
    have HB2:Hid (b1=(b||nameBad l v kind)):=Lib.hid (by rw[hBB,HB1.out];simp[hk])
    clear hL0 f0 g0 hBB hl HB1 hlook g1 g2 g3 hk
    go_wp2_with fail
    go_end0
    exact⟨rfl,by rw[HN.out,← HB2.out];exact HLL.out,HFF.out⟩
   ·have q1:(x.kind==kind)=false:=beq_eq_false_iff_ne.2 hk
    have q2:(x.kind != kind)=true:=by simp[hk]
    have HB2:Hid (true=(b||nameBad l v kind)):=Lib.hid (by rw[hBB];simp[hk])
    have f9:=(Fr.refl [] (wc.setCell ⟨Lb,1,none⟩ (.bool true))).alloc (.cells #[.int .i64 v',.int .i64 x.kind,.int .i64 0,.int .i64 0,.slice none 0 0,.slice none 0 0,.int .i64 0,.int .i64 x.pres,.int .i64 0,.slice B fs.length d,.int .i64 r] 88)
    have HL9:=Lib.hid ((HL.out.bad true).fr0 f9)
    have HF9:=Lib.hid ((HF.out.trans ((LookAt.setBad_fr wc Lb true).mono (L':=[Lb,Mb]) (fun x hx => .inl (by simp at hx;simp[hx])))).trans0 f9)
    clear f9
    clear hL0 f0 g0 hBB hl HB1 hlook g1 g2 g3 hk
    go_wp2_with fail
    go_end0
    exact⟨rfl,by rw[HN.out,← HB2.out];exact HL9.out,HF9.out⟩
end
section
variable [LoB]
attribute [local instance] Ex.no
theorem pzero_any(W:World)(A B:Option Addr)(c d:Nat):Calls Tryz.prog 96 #[.agg #[.int .i64 0,.int .i64 0,.slice A 0 c,.slice B 0 d,.int .i64 0]] W fun e w'=>e = .returned (.bool true)∧Fr [] W w':=by
 have HF:=Lib.hid ((Fr.refl [] W).alloc (.cells #[.int .i64 0,.int .i64 0,.slice A 0 c,.slice B 0 d,.int .i64 0] 27))
 have g0:=heap_new W (.cells #[.int .i64 0,.int .i64 0,.slice A 0 c,.slice B 0 d,.int .i64 0] 27)
 obtain⟨⟨l0,l1,l2,l3,l4⟩,_⟩:=cells5 g0
 have hgs:=lt_of_heap g0
 clear g0
 go_enter Tryz.func96,Tryz.ntmps96
 go_wp2_with fail
 go_ret
 exact⟨rfl,HF.out⟩
section
variable {P:Program} {T kt et:TypeId} (hT:P.underlying T=some (.map kt et)) (hk:P.underlying kt=some (.int .i64))
include hT hk
theorem run_look1_hit(w:World)(r:Nat)(es:Array MapEntry)(c:Nat)(hb:w.heap[r]?=some (.map es c))(n:Int)(i:Nat)(v:Value)(hf:Instr.findNow (.int .i64) (.int .i64 n) es.toList 0=some (some (i,v))):
  (Instr.lookup T (.map (some r)) (.int .i64 n) false).run P w = .ok v w:=by
 simp[Instr.lookup,run_underlying hT,run_underlying hk,MapKept.run_getObj_map hb,run_checkKey_int hk _ 9999,Instr.findKey,hf,Result.andThen]
theorem run_look1_miss(w:World)(r:Nat)(es:Array MapEntry)(c:Nat)(hb:w.heap[r]?=some (.map es c))(n:Int)(z:Value)(hf:Instr.findNow (.int .i64) (.int .i64 n) es.toList 0=some none)
  (hz:(zeroValue et).run P w = .ok z w):
  (Instr.lookup T (.map (some r)) (.int .i64 n) false).run P w = .ok z w:=by
 simp[Instr.lookup,run_underlying hT,run_underlying hk,MapKept.run_getObj_map hb,run_checkKey_int hk _ 9999,Instr.findKey,hf,hz,Result.andThen]
end
theorem zeroIntM(w:World):(zeroValue 3).run Tryz.prog w = .ok (.int .i64 0) w:=by kernel_rfl
def KdV:Int→Value→Prop:=fun x u=>u = .int .i64 x
def kindOf:Role→Int
 | .no=>0
 | .ty=>1
 | .pr=>2
 | .rw _ _=>3
def StsAt(w:World)(O:Nat→Prop)(A:Option Addr)(zs:List (List UInt8)):Prop:=zs=[]∨∃ g,A=some ⟨g,0,none⟩∧O g∧g<w.heap.size∧(∃ cs,w.heap[g]?=some (.cells cs 9 (0,0)))∧∀ (i:Nat)(x:List UInt8),zs[i]?=some x→w.cell? ⟨g,i,none⟩=some (.string ⟨x.toArray⟩)
def BhV(w:World)(O:Nat→Prop):Int×List (List UInt8)→Value→Prop:=fun x u=>∃ (A:Option Addr)(c:Nat),StsAt w O A x.2∧x.2.length≤1073741824∧u = .agg #[.int .i64 x.1,.slice A x.2.length c]
structure PLook (w:World)(base:Nat)(O:Nat→Prop)(G:Ctx)(Lb Mn Mr:Nat)(ln:List (Int×Int))(lr:List (Int×(Int×List (List UInt8)))):Prop where
 blk:w.heap[Lb]?=some (.cells #[.map (some Mn),.map (some Mr)] 65 (0,0))
 mn:MpAt w KdV (some Mn) ln
 mr:MpAt w (BhV w O) (some Mr) lr
 ne:Mn≠Mr
 lo:base≤Lb∧base≤Mn∧base≤Mr
 kn:∀ v n,lk v ln=some n→n=kindOf (G v)
 kr:∀ r q,lk r lr=some q→G r = .rw q.1 q.2
section
variable {w w':World} {base Lb Mn Mr:Nat} {O:Nat→Prop} {G:Ctx} {ln:List (Int×Int)} {lr:List (Int×(Int×List (List UInt8)))}
theorem MpAt.lt{α:Type}{V:α→Value→Prop}{m:Nat}{l:List (Int×α)}(h:MpAt w V (some m) l):∃ es n,w.heap[m]?=some (.map es n)∧MpE V es l:=by
 rcases h with⟨c,_⟩| ⟨m',es,n,c,hm,he⟩
 ·cases c
 ·cases c;exact⟨es,n,hm,he⟩
theorem StsAt.keep{A:Option Addr}{zs:List (List UInt8)}{L:List Nat}(h:StsAt w O A zs)(hf:Fr L w w')(hL:∀ x ∈ L,∀ cs,w.heap[x]?≠some (.cells cs 9 (0,0))):StsAt w' O A zs:=by
 rcases h with h|⟨g,h1,h2,h3,⟨cs,h4⟩,h5⟩
 ·exact .inl h
 ·have hn:g ∉ L:=fun hx=>hL g hx cs h4
  exact .inr ⟨g,h1,h2,Nat.lt_of_lt_of_le h3 hf.size,⟨cs,hf.keep h4 hn⟩,fun i x hi=>(hf.cell (p:=⟨g,i,none⟩) h3 hn).trans (h5 i x hi)⟩
theorem BhV.keep{L:List Nat}{q:Int×List (List UInt8)}{u:Value}(h:BhV w O q u)(hf:Fr L w w')(hL:∀ x ∈ L,∀ cs,w.heap[x]?≠some (.cells cs 9 (0,0))):BhV w' O q u:=by
 obtain⟨A,c,h1,h2⟩:=h
 exact⟨A,c,h1.keep hf hL,h2⟩
theorem PLook.lt(h:PLook w base O G Lb Mn Mr ln lr):Lb<w.heap.size∧Mn<w.heap.size∧Mr<w.heap.size:=by
 obtain⟨es,n,h1,_⟩:=h.mn.lt
 obtain⟨es',n',h2,_⟩:=h.mr.lt
 exact⟨lt_of_heap h.blk,lt_of_heap h1,lt_of_heap h2⟩
theorem PLook.nb(h:PLook w base O G Lb Mn Mr ln lr):Lb≠Mn∧Lb≠Mr:=by
 obtain⟨es,n,h1,_⟩:=h.mn.lt
 obtain⟨es',n',h2,_⟩:=h.mr.lt
 exact⟨fun e=>(by have:=h.blk;rw[e,h1] at this;cases this),fun e=>(by have:=h.blk;rw[e,h2] at this;cases this)⟩
theorem PLook.fr0(h:PLook w base O G Lb Mn Mr ln lr)(hf:Fr [] w w'):PLook w' base O G Lb Mn Mr ln lr :=
 ⟨hf.keep h.blk (fun x=>by cases x),h.mn.keep hf (fun _ _ x=>by cases x) (fun _ _ x=>x),h.mr.keep hf (fun _ _ x=>by cases x) (fun _ _ x=>x.keep hf (fun x hx=>by cases hx)),h.ne,h.lo,h.kn,h.kr⟩
theorem PLook.cells(h:PLook w base O G Lb Mn Mr ln lr):w.cell? ⟨Lb,0,none⟩=some (.map (some Mn))∧w.cell? ⟨Lb,1,none⟩=some (.map (some Mr)):=by
 refine⟨?_,?_⟩<;> rw[cell_of h.blk] <;> rfl
theorem PLook.name(h:PLook w base O G Lb Mn Mr ln lr){v what:Int}(hw:what=kindOf (G v)):∃ w':World,(Instr.mapUpdate 62 (.map (some Mn)) (.int .i64 v) (.int .i64 what)).run Tryz.prog w = .ok () w'∧PLook w' base O G Lb Mn Mr ((v,what)::ln) lr∧Fr [Mn] w w':=by
 obtain⟨es,n,hm,he⟩:=h.mn.lt
 have hnc:∀ x ∈ [Mn],∀ cs,w.heap[x]?≠some (.cells cs 9 (0,0)):=fun x hx cs e=>by simp at hx;subst hx;rw[hm] at e;cases e
 have fin:∀ es' n',MpE KdV es' ((v,what)::ln)→PLook (mapW w Mn (.map es' n')) base O G Lb Mn Mr ((v,what)::ln) lr:=fun es' n' he' =>
  ⟨(mapW_fr w Mn _).keep h.blk (by simp;exact h.nb.1),.inr ⟨Mn,es',n',rfl,mapW_at _ (lt_of_heap hm),he'⟩,h.mr.keep (mapW_fr w Mn _) (fun m e hx=>by cases e;simp at hx;exact h.ne hx.symm) (fun _ _ x=>x.keep (mapW_fr w Mn _) hnc),h.ne,h.lo,fun u k hu=>by
   rw[lk] at hu
   by_cases c:v=u
   ·rw[if_pos c] at hu;cases hu;rw[← c];exact hw
   ·rw[if_neg c] at hu;exact h.kn u k hu,h.kr⟩
 cases hl:lk v ln with
 | none=>exact⟨_,map_put Tryz.underlying62 Tryz.underlying3 _ hm (he.no v hl),fin _ _ (he.push hl rfl n),mapW_fr _ _ _⟩
 | some y =>
  obtain⟨j,e,h1,h2,h3,h4⟩:=he.put (u:=.int .i64 what) (y:=what) hl rfl
  exact⟨_,map_over Tryz.underlying62 Tryz.underlying3 _ hm h1 h2 h3,fin _ _ h4,mapW_fr _ _ _⟩
end
theorem pname_any{W:World}{base Lb Mn Mr:Nat}{O:Nat→Prop}{G:Ctx}{ln:List (Int×Int)}{lr:List (Int×(Int×List (List UInt8)))}(h:PLook W base O G Lb Mn Mr ln lr){v what:Int}(hv:1≤v)(hw:what=kindOf (G v))(h0:what≠0):
  Calls Tryz.prog 49 #[.pointer (some ⟨Lb,0,none⟩),.int .i64 v,.int .i64 what] W fun e w'=>e = .returned (.bool true)∧(∃ ln',PLook w' base O G Lb Mn Mr ln' lr)∧Fr [Lb,Mn,Mr] W w':=by
 obtain⟨c0,c1⟩:=h.cells
 have hlt:=h.lt.1
 obtain⟨es,nn,hm,he⟩:=h.mn.lt
 have q1:¬ v<1:=by omega
 have q2:decide (v<1)=false:=by simp;omega
 have q3:(what==0)=false:=beq_eq_false_iff_ne.2 h0
 have q4:(what != 0)=true:=by simp[h0]
 cases hl:lk v ln with
 | none =>
  have hz0:=run_look1_miss Tryz.underlying62 Tryz.underlying3 W Mn es nn hm v (.int .i64 0) (he.no v hl) (zeroIntM _)
  obtain⟨w9,hput,hP9,hF9⟩:=h.name hw
  have HP:=Lib.hid hP9
  have HF:=Lib.hid (hF9.mono (L':=[Lb,Mn,Mr]) (fun x hx => .inl (by simp at hx;simp[hx])))
  clear h hm he hl hP9 hF9 hw h0
  go_enter Tryz.func49,Tryz.ntmps49
  go_wp2_with fail
  go_ret
  exact⟨rfl,⟨_,HP.out⟩,HF.out⟩
 | some n =>
  have hn:n=what:=(h.kn v n hl).trans hw.symm
  obtain⟨i,u,hf,hu⟩:=he.is v n hl
  have hu2:u = .int .i64 what:=by rw[← hn];exact hu
  subst hu2
  have hz0:=run_look1_hit Tryz.underlying62 Tryz.underlying3 W Mn es nn hm v i _ hf
  obtain⟨w9,hput,hP9,hF9⟩:=h.name hw
  have HP:=Lib.hid hP9
  have HF:=Lib.hid (hF9.mono (L':=[Lb,Mn,Mr]) (fun x hx => .inl (by simp at hx;simp[hx])))
  clear h hm he hl hP9 hF9 hw h0 hn hf hu
  go_enter Tryz.func49,Tryz.ntmps49
  go_wp2_with fail
  go_ret
  exact⟨rfl,⟨_,HP.out⟩,HF.out⟩
end
end
def awA:TyT:=.mk 10 0 [] [⟨[97],1,0,.mk 2 0 [] [] 0⟩] 1
def awB:TyT:=.mk 10 0 [] [⟨[98],1,0,.var 2⟩] 3
def awX:TyT:=.mk 10 0 [] [⟨[97],1,0,.mk 2 0 [] [] 0⟩,⟨[98],1,0,.var 2⟩] 4
def awF:TyT:=.mk 7 0 [.var 9,.mk 2 0 [] [] 0] [] 0
theorem aw_unify:(Unify 20 ⟨.one,3,awA,awB⟩ awA awB 3).map (fun r=>(r.1,r.2.most,ap r.2.s awA))=some (0,4,awX):=by rfl
theorem aw_again:(Unify 20 ⟨.one,3,awA,awB⟩ awA awB 3).bind (fun r=>(Unify 20 ⟨r.2.s,5,awA,awB⟩ (.var 9) awF 9).map (fun q=>q.1))=some 26:=by rfl
theorem aw_size:szT awX=5:=by rfl
def awG:Ctx:=fun v=>if v=1 then .rw 10 [[97]] else if v=2 then .ty else if v=3 then .rw 10 [[98]] else .no
theorem aw_pos:Pos awG:=fun v hv=>by
 unfold awG at hv
 by_cases h1:v=1
 ·omega
 ·by_cases h2:v=2
  ·omega
  ·by_cases h3:v=3
   ·omega
   ·rw[if_neg h1,if_neg h2,if_neg h3] at hv;exact absurd rfl hv
theorem aw_rise:Rise awG:=fun v k L hv=>by
 unfold awG at hv
 by_cases h1:v=1
 ·rw[if_pos h1] at hv;cases hv;simp
 ·rw[if_neg h1] at hv
  by_cases h2:v=2
  ·rw[if_pos h2] at hv;cases hv
  ·rw[if_neg h2] at hv
   by_cases h3:v=3
   ·rw[if_pos h3] at hv;cases hv;simp
   ·rw[if_neg h3] at hv;cases hv
theorem wf_plain(G:Ctx){k:Int}(h:argN k=some 0)(h1:k≠1)(hr:¬ rwd k=true):WfT G (.mk k 0 [] [] 0):=by
 rw[WfT]
 exact⟨h,fun c=>absurd c h1,fun _=>rfl,trivial,trivial,by rw[if_neg hr];exact⟨rfl,rfl⟩⟩
theorem wf_vr(G:Ctx){v:Int}(h:1≤v)(hg:G v = .ty):WfT G (.var v):=by
 rw[TyT.var,WfT]
 exact⟨rfl,fun _=>⟨h,hg⟩,fun c=>absurd rfl c,trivial,trivial,by rw[if_neg (by decide)];exact⟨rfl,rfl⟩⟩
theorem wf_rec1{G:Ctx}{lb:List UInt8}{t:TyT}{r:Int}(wt:WfT G t)(hl:lb≠[])(h1:1≤r)(hg:G r = .rw 10 [lb]):WfT G (.mk 10 0 [] [⟨lb,1,0,t⟩] r):=by
 rw[WfT]
 refine⟨rfl,fun c=>(by cases c),fun _=>rfl,trivial,⟨.inr (.inl ⟨rfl,rfl,wt⟩),trivial⟩,?_⟩
 rw[if_pos (by rfl)]
 refine⟨by simp[labs],fun f hf=>?_,.inr ⟨h1,[lb],hg,by simp,fun x=>by simp[labs]⟩⟩
 simp at hf
 subst hf
 exact⟨hl,id,fun c=>(by cases c)⟩
theorem aw_ok:AOk awG ⟨.one,3,awA,awB⟩:=aok_one aw_pos aw_rise (wf_rec1 (wf_plain _ rfl (by decide) (by decide)) (by decide) (by decide) rfl) (wf_rec1 (wf_vr _ (by decide) rfl) (by decide) (by decide) rfl) (fun v hv=>by
 unfold awG
 rw[if_neg (by omega),if_neg (by omega),if_neg (by omega)]) (by decide)
theorem aw_seen:seenT awB (seenT awA 0)=3:=by rfl
section
attribute [local go_sem ↓] Go.wp_at_zero Go.wp_at_succ
section
variable [LoB]
attribute [local instance] Ex.no
def PAns(w W:World)(O:Nat→Prop)(G:Ctx)(Lb Mn Mr:Nat)(e:Ending)(w':World):Prop:=e = .returned (.bool true)∧(∃ ln' lr',PLook w' w.heap.size O G Lb Mn Mr ln' lr')∧Fr [Lb,Mn,Mr] W w'
def PMC(N:Nat):Prop:=∀ (w W:World)(P:List UInt8→Prop)(O:Nat→Prop)(G:Ctx)(t:TyT)(A B:Option Addr)(c d Lb Mn Mr:Nat)(ln:List (Int×Int))(lr:List (Int×(Int×List (List UInt8)))),rzT t<N→Fr [] w W→WfT G t→LimT t→Few P→(∀ g,W.heap.size≤g→O g)→
  TyAt w (okW w) P t [.int .i64 t.k,.int .i64 t.v,.slice A t.args.length c,.slice B t.fs.length d,.int .i64 t.rest]→PLook W w.heap.size O G Lb Mn Mr ln lr →
  Calls Tryz.prog 34 #[.pointer (some ⟨Lb,0,none⟩),.agg #[.int .i64 t.k,.int .i64 t.v,.slice A t.args.length c,.slice B t.fs.length d,.int .i64 t.rest]] W (PAns w W O G Lb Mn Mr)
theorem pfield_any{N:Nat}(ih:PMC N){w W:World}{P:List UInt8→Prop}{O:Nat→Prop}{G:Ctx}{f:Fd}{A B:Option Addr}{c d Lb Mn Mr:Nat}{ln:List (Int×Int)}{lr:List (Int×(Int×List (List UInt8)))}{rest:Int}(hN:rzT f.t<N)(hW:Fr [] w W)(wf:WfF G f)(hL:LimT f.t)(hP:Few P)(hO:∀ g,W.heap.size≤g→O g)
  (ht:TyAt w (okW w) P f.t [.int .i64 f.t.k,.int .i64 f.t.v,.slice A f.t.args.length c,.slice B f.t.fs.length d,.int .i64 f.t.rest]) (h:PLook W w.heap.size O G Lb Mn Mr ln lr) (hr:f.pr=0→rest≠0):
  Calls Tryz.prog 79 #[.pointer (some ⟨Lb,0,none⟩),.agg #[.string ⟨f.lb.toArray⟩,.int .i64 f.pr,.int .i64 f.p,.int .i64 f.t.k,.int .i64 f.t.v,.slice A f.t.args.length c,.slice B f.t.fs.length d,.int .i64 f.t.rest],.int .i64 rest] W (PAns w W O G Lb Mn Mr):=by
 obtain⟨lb,pr,p,t⟩:=f
 simp only at hN wf hL ht hr ⊢
 rw[WfF] at wf
 rcases wf with⟨rfl,rfl,rfl⟩| ⟨rfl,rfl,wt⟩| ⟨rfl,hp,hg,wt⟩
 ·have hr:=hr rfl
  have q1:(rest==0)=false:=beq_eq_false_iff_ne.2 hr
  have q2:(rest != 0)=true:=by simp[hr]
  have f0:=(Fr.refl [] W).alloc (.cells #[.string ⟨lb.toArray⟩,.int .i64 0,.int .i64 0,.int .i64 0,.int .i64 0,.slice A 0 c,.slice B 0 d,.int .i64 0] 44)
  have g0:=heap_new W (.cells #[.string ⟨lb.toArray⟩,.int .i64 0,.int .i64 0,.int .i64 0,.int .i64 0,.slice A 0 c,.slice B 0 d,.int .i64 0] 44)
  obtain⟨⟨l0,l1,l2,l3,l4,l5,l6,l7⟩,_⟩:=cells8 g0
  have hgs:=lt_of_heap g0
  have HL:=Lib.hid (h.fr0 f0)
  have HF:=Lib.hid f0
  clear hr f0 g0 h ht hL hN hW ih hO
  show Calls _ _ #[.pointer (some ⟨Lb,0,none⟩),.agg #[.string ⟨lb.toArray⟩,.int .i64 0,.int .i64 0,.int .i64 0,.int .i64 0,.slice A 0 c,.slice B 0 d,.int .i64 0],.int .i64 rest] W (PAns w W O G Lb Mn Mr)
  go_enter Tryz.func79,Tryz.ntmps79
  go_wp2_with fail
  refine(pzero_any _ A B c d).mono ?_
  rintro e w6 ⟨rfl,f6⟩
  have HL6:=Lib.hid (HL.out.fr0 f6)
  have HF6:=Lib.hid ((HF.out.trans f6).mono (L':=[Lb,Mn,Mr]) (fun x hx=>by cases hx))
  clear f6
  go_wp2_with fail
  go_ret
  exact⟨rfl,⟨_,_,HL6.out⟩,HF6.out⟩
 ·have f0:=(Fr.refl [] W).alloc (.cells #[.string ⟨lb.toArray⟩,.int .i64 1,.int .i64 0,.int .i64 t.k,.int .i64 t.v,.slice A t.args.length c,.slice B t.fs.length d,.int .i64 t.rest] 44)
  have g0:=heap_new W (.cells #[.string ⟨lb.toArray⟩,.int .i64 1,.int .i64 0,.int .i64 t.k,.int .i64 t.v,.slice A t.args.length c,.slice B t.fs.length d,.int .i64 t.rest] 44)
  obtain⟨⟨l0,l1,l2,l3,l4,l5,l6,l7⟩,_⟩:=cells8 g0
  have hgs:=lt_of_heap g0
  have cM:=Lib.hid (ih w _ P O G t A B c d Lb Mn Mr ln lr hN (hW.trans f0) wt hL hP (fun g hg=>hO g (Nat.le_trans f0.size hg)) ht (h.fr0 f0))
  have HF:=Lib.hid (f0.mono (L':=[Lb,Mn,Mr]) (fun x hx=>by cases hx))
  clear f0 g0 h ht hL hN hW ih wt hr hO
  go_enter Tryz.func79,Tryz.ntmps79
  go_wp2_with fail
  refine cM.out.mono ?_
  rintro e w6 ⟨rfl,hl6,f6⟩
  have HL6:=Lib.hid hl6
  have HF6:=Lib.hid (HF.out.trans f6)
  clear f6 hl6 cM
  go_wp2_with fail
  go_ret
  exact⟨rfl,HL6.out,HF6.out⟩
 ·have f0:=(Fr.refl [] W).alloc (.cells #[.string ⟨lb.toArray⟩,.int .i64 2,.int .i64 p,.int .i64 t.k,.int .i64 t.v,.slice A t.args.length c,.slice B t.fs.length d,.int .i64 t.rest] 44)
  have g0:=heap_new W (.cells #[.string ⟨lb.toArray⟩,.int .i64 2,.int .i64 p,.int .i64 t.k,.int .i64 t.v,.slice A t.args.length c,.slice B t.fs.length d,.int .i64 t.rest] 44)
  obtain⟨⟨l0,l1,l2,l3,l4,l5,l6,l7⟩,_⟩:=cells8 g0
  have hgs:=lt_of_heap g0
  have cN:=Lib.hid (pname_any (h.fr0 f0) hp (what:=2) (by rw[hg];rfl) (by decide))
  have hlt:=h.lt
  have hlo:=h.lo
  have HF:=Lib.hid (f0.mono (L':=[Lb,Mn,Mr]) (fun x hx=>by cases hx))
  have HG:=Lib.hid g0
  have HW:=Lib.hid (hW.trans f0)
  have HT:=Lib.hid ht
  have HWT:=Lib.hid wt
  have HLT:=Lib.hid hL
  have HP:=Lib.hid hP
  have HO:=Lib.hid hO
  have IH:=Lib.hid ih
  have HN:=Lib.hid hN
  have HW0:=Lib.hid hW
  clear f0 g0 h ht hL hW ih wt hr hP hg hN hO
  go_enter Tryz.func79,Tryz.ntmps79
  go_wp2_with fail
  refine cN.out.mono ?_
  rintro e w6 ⟨rfl,⟨ln',hl6⟩,f6⟩
  have hww:w.heap.size≤W.heap.size:=HW0.out.size
  have j0:=f6.keep HG.out (by simp;omega)
  have hw6:Fr [] w w6:=HW.out.step f6 (fun x hx => .inr (by simp at hx;omega))
  have cM:=Lib.hid (IH.out w w6 P O G t A B c d Lb Mn Mr ln' lr HN.out hw6 HWT.out HLT.out HP.out (fun g hg=>HO.out g (Nat.le_trans (HF.out.trans f6).size hg)) HT.out hl6)
  have HF6:=Lib.hid (HF.out.trans f6)
  clear l0 l1 l2 l3 l4 l5 l6 l7 hgs f6 hl6 hw6 cN
  obtain⟨⟨l0,l1,l2,l3,l4,l5,l6,l7⟩,_⟩:=cells8 j0
  have hgs:=lt_of_heap j0
  clear j0
  go_wp2_with fail
  refine cM.out.mono ?_
  rintro e w7 ⟨rfl,hl7,f7⟩
  have HL7:=Lib.hid hl7
  have HF7:=Lib.hid (HF6.out.trans f7)
  clear f7 hl7 cM
  go_wp2_with fail
  go_ret
  exact⟨rfl,HL7.out,HF7.out⟩
end
def findReg(n:Nat):Code→Option Code
 | .region i ops d=>if i==n then some (.region i ops d)else none
 | .seq a b=>(findReg n a).or (findReg n b)
 | .cond _ a b=>(findReg n a).or (findReg n b)
 | .block _ c=>findReg n c
 | .loop c=>findReg n c
 | .scope c=>findReg n c
 | _=>none
def wSt(P:Program)(ops:Array Oper)(w:World)(Q:Act→Prop)(l:List Oper)(a:Act):Prop:=wpStill P ops w Q l a
section
variable {P:Program} {ops:Array Oper} {w:World} {Q:Act→Prop} {a:Act} {o:Oper} {rest:List Oper}
theorem st_run{v:Value}(hw:Region.wanted o (yielded ops a.tmps)=true)(hr:(execOp a.eval o).run P w = .ok (.value v) w)(hk:∀ K:Act→Prop,(∀ a,wSt P ops w Q rest a→K a)→K (a.put o.dst v)):wSt P ops w Q (o::rest) a:=by
 unfold wSt wpStill
 rw[if_pos hw]
 unfold Oper.still
 rw[hr,Oper.stillUpon_value]
 exact hk _ (fun _ h=>h)
theorem st_skip(hw:Region.wanted o (yielded ops a.tmps)=false)(hk:∀ K:Act→Prop,(∀ a,wSt P ops w Q rest a→K a)→K (a.put o.dst undef)):wSt P ops w Q (o::rest) a:=by
 unfold wSt wpStill
 rw[if_neg (by rw[hw];exact Bool.false_ne_true)]
 exact hk _ (fun _ h=>h)
theorem st_nil(h:Q a):wSt P ops w Q [] a:=h
theorem st_of{l:List Oper}(h:wSt P ops w Q l a):wpStill P ops w Q l a:=h
end
attribute [irreducible] wSt
noncomputable def reg5:Code:=(Tryz.f52.body.bind (findReg 5)).getD .skip
theorem r5_at0{Lb T C gb og i n d:Nat}{w7:World}{Q:Exit→Act→World→Prop}{u1 u2 u3 u4 u6 u7 u10 u11 u12 u13 u14 u15 u16 u17 u18 u19 u20 u21 u22 u23 u24 u25 u26 u27 u28 u29 u30 u31 u32 u33 u34 u35 u36 u37 u38 u39 u40 u41 u42 u43 u44 u45 u46 u47 u48 u49 u50 u51 u52 u53 u54 u55 u56 u57 u58 u59 u60 u61 u62 u63 u64 u65 u66 u67 u68 u69 u70 u71 u72 u73 u74 u75 u76 u77 u78 u79 u80 u81 u82 u83 u84 u85 u86 u87 u88 u89 u90 u91 u92:Value}{lb:List UInt8}(hlb:(lb==[])=false)(hlb2:lb.isEmpty=false){pr p tk tv tr rest:Int}{tan df tfn ef:Nat}{Bf Df:Option Addr}
  (x0:w7.cell? ⟨C,0,none⟩=some (.string ⟨lb.toArray⟩)) (x1:w7.cell? ⟨C,1,none⟩=some (.int .i64 pr)) (x2:w7.cell? ⟨C,2,none⟩=some (.int .i64 p)) (x3:w7.cell? ⟨C,3,none⟩=some (.int .i64 tk)) (x4:w7.cell? ⟨C,4,none⟩=some (.int .i64 tv)) (x5:w7.cell? ⟨C,5,none⟩=some (.slice Bf tan df)) (x6:w7.cell? ⟨C,6,none⟩=some (.slice Df tfn ef)) (x7:w7.cell? ⟨C,7,none⟩=some (.int .i64 tr))
  (y0:w7.cell? ⟨T,0,none⟩=some (.slice (some ⟨gb,og,none⟩) n d)) (y1:w7.cell? ⟨T,1,none⟩=some (.int .i64 rest)) (hC:C<w7.heap.size) (hT:T<w7.heap.size) (hi:i=0) 
  (R:World→Prop) (cF:Calls Tryz.prog 79 #[.pointer (some ⟨Lb,0,none⟩),.agg #[.string ⟨lb.toArray⟩,.int .i64 pr,.int .i64 p,.int .i64 tk,.int .i64 tv,.slice Bf tan df,.slice Df tfn ef,.int .i64 tr],.int .i64 rest] w7.drew fun e w'=>e = .returned (.bool true)∧R w')
  (hQ:∀ (v20 v21 v22 v23 v24 v25 v26 v27 v28 v29 v30 v31 v32 v33 v34 v35 v36 v37 v38 v39 v40 v41 v42 v43 v44 v45:Value) (w':World),R w'→Q .normal ⟨#[.pointer (some ⟨Lb,0,none⟩),u1,u2,u3,u4,.pointer (some ⟨T,0,none⟩),u6,u7,.int .i64 (i:Int),.pointer (some ⟨C,0,none⟩),u10,u11,u12,u13,u14,u15,u16,u17,u18,u19,v20,v21,v22,v23,v24,v25,v26,v27,v28,v29,v30,v31,v32,v33,v34,v35,v36,v37,v38,v39,v40,v41,v42,v43,v44,v45,.bool false,u47,u48,u49,u50,u51,u52,u53,u54,u55,u56,u57,u58,u59,u60,u61,u62,u63,u64,u65,u66,u67,u68,u69,u70,u71,u72,u73,u74,u75,u76,u77,u78,u79,u80,u81,u82,u83,u84,u85,u86,u87,u88,u89,u90,u91,u92],[]⟩ w'):
  Code.wp Tryz.prog reg5 Q ⟨#[.pointer (some ⟨Lb,0,none⟩),u1,u2,u3,u4,.pointer (some ⟨T,0,none⟩),u6,u7,.int .i64 (i:Int),.pointer (some ⟨C,0,none⟩),u10,u11,u12,u13,u14,u15,u16,u17,u18,u19,u20,u21,u22,u23,u24,u25,u26,u27,u28,u29,u30,u31,u32,u33,u34,u35,u36,u37,u38,u39,u40,u41,u42,u43,u44,u45,u46,u47,u48,u49,u50,u51,u52,u53,u54,u55,u56,u57,u58,u59,u60,u61,u62,u63,u64,u65,u66,u67,u68,u69,u70,u71,u72,u73,u74,u75,u76,u77,u78,u79,u80,u81,u82,u83,u84,u85,u86,u87,u88,u89,u90,u91,u92],[]⟩ w7:=by
 subst hi
 conv=>arg 2;whnf
 refine wp_region_still_tail 24 (by kernel_rfl) (by kernel_rfl) ?_
 simp only[List.take_succ_cons,List.take_zero,List.drop_succ_cons,List.drop_zero]
 change wpStill _ _ w7.drew _ _ _
 refine st_of ?_
 refine st_run (v:=.pointer (some ⟨C,0,none⟩)) (by kernel_rfl) (by kernel_rfl) (fun K hK=>?_)
 simp only[Act.put,List.setIfInBounds_toArray,List.set_cons_succ,List.set_cons_zero]
 refine hK _ ?_
 clear hK K
 refine st_run (v:=.string ⟨lb.toArray⟩) (by kernel_rfl) (by go_simp) (fun K hK=>?_)
 simp only[Act.put,List.setIfInBounds_toArray,List.set_cons_succ,List.set_cons_zero]
 refine hK _ ?_
 clear hK K
 refine st_run (v:=.bool false) (by kernel_rfl) (by go_simp) (fun K hK=>?_)
 simp only[Act.put,List.setIfInBounds_toArray,List.set_cons_succ,List.set_cons_zero]
 refine hK _ ?_
 clear hK K
 refine st_run (v:=.bool false) (by kernel_rfl) (by kernel_rfl) (fun K hK=>?_)
 simp only[Act.put,List.setIfInBounds_toArray,List.set_cons_succ,List.set_cons_zero]
 refine hK _ ?_
 clear hK K
 refine st_run (v:=.int .i64 ((0:Nat):Int)) (by kernel_rfl) (by kernel_rfl) (fun K hK=>?_)
 simp only[Act.put,List.setIfInBounds_toArray,List.set_cons_succ,List.set_cons_zero]
 refine hK _ ?_
 clear hK K
 refine st_run (v:=.bool false) (by kernel_rfl) (by kernel_rfl) (fun K hK=>?_)
 simp only[Act.put,List.setIfInBounds_toArray,List.set_cons_succ,List.set_cons_zero]
 refine hK _ ?_
 clear hK K
 refine st_run (v:=.bool false) (by kernel_rfl) (by kernel_rfl) (fun K hK=>?_)
 simp only[Act.put,List.setIfInBounds_toArray,List.set_cons_succ,List.set_cons_zero]
 refine hK _ ?_
 clear hK K
 refine st_skip (by kernel_rfl) (fun K hK=>?_)
 simp only[Act.put,List.setIfInBounds_toArray,List.set_cons_succ,List.set_cons_zero]
 refine hK _ ?_
 clear hK K
 refine st_skip (by kernel_rfl) (fun K hK=>?_)
 simp only[Act.put,List.setIfInBounds_toArray,List.set_cons_succ,List.set_cons_zero]
 refine hK _ ?_
 clear hK K
 refine st_skip (by kernel_rfl) (fun K hK=>?_)
 simp only[Act.put,List.setIfInBounds_toArray,List.set_cons_succ,List.set_cons_zero]
 refine hK _ ?_
 clear hK K
 refine st_skip (by kernel_rfl) (fun K hK=>?_)
 simp only[Act.put,List.setIfInBounds_toArray,List.set_cons_succ,List.set_cons_zero]
 refine hK _ ?_
 clear hK K
 refine st_skip (by kernel_rfl) (fun K hK=>?_)
 simp only[Act.put,List.setIfInBounds_toArray,List.set_cons_succ,List.set_cons_zero]
 refine hK _ ?_
 clear hK K
 refine st_skip (by kernel_rfl) (fun K hK=>?_)
 simp only[Act.put,List.setIfInBounds_toArray,List.set_cons_succ,List.set_cons_zero]
 refine hK _ ?_
 clear hK K
 refine st_skip (by kernel_rfl) (fun K hK=>?_)
 simp only[Act.put,List.setIfInBounds_toArray,List.set_cons_succ,List.set_cons_zero]
 refine hK _ ?_
 clear hK K
 refine st_skip (by kernel_rfl) (fun K hK=>?_)
 simp only[Act.put,List.setIfInBounds_toArray,List.set_cons_succ,List.set_cons_zero]
 refine hK _ ?_
 clear hK K
 refine st_skip (by kernel_rfl) (fun K hK=>?_)
 simp only[Act.put,List.setIfInBounds_toArray,List.set_cons_succ,List.set_cons_zero]
 refine hK _ ?_
 clear hK K
 refine st_skip (by kernel_rfl) (fun K hK=>?_)
 simp only[Act.put,List.setIfInBounds_toArray,List.set_cons_succ,List.set_cons_zero]
 refine hK _ ?_
 clear hK K
 refine st_run (v:=.bool false) (by kernel_rfl) (by kernel_rfl) (fun K hK=>?_)
 simp only[Act.put,List.setIfInBounds_toArray,List.set_cons_succ,List.set_cons_zero]
 refine hK _ ?_
 clear hK K
 refine st_run (v:=.bool false) (by kernel_rfl) (by kernel_rfl) (fun K hK=>?_)
 simp only[Act.put,List.setIfInBounds_toArray,List.set_cons_succ,List.set_cons_zero]
 refine hK _ ?_
 clear hK K
 refine st_run (v:=.bool false) (by kernel_rfl) (by kernel_rfl) (fun K hK=>?_)
 simp only[Act.put,List.setIfInBounds_toArray,List.set_cons_succ,List.set_cons_zero]
 refine hK _ ?_
 clear hK K
 refine st_run (v:=.pointer (some ⟨Lb,0,none⟩)) (by kernel_rfl) (by kernel_rfl) (fun K hK=>?_)
 simp only[Act.put,List.setIfInBounds_toArray,List.set_cons_succ,List.set_cons_zero]
 refine hK _ ?_
 clear hK K
 refine st_run (v:=.agg #[.string ⟨lb.toArray⟩,.int .i64 pr,.int .i64 p,.int .i64 tk,.int .i64 tv,.slice Bf tan df,.slice Df tfn ef,.int .i64 tr]) (by kernel_rfl) (by go_simp) (fun K hK=>?_)
 simp only[Act.put,List.setIfInBounds_toArray,List.set_cons_succ,List.set_cons_zero]
 refine hK _ ?_
 clear hK K
 refine st_run (v:=.pointer (some ⟨T,1,none⟩)) (by kernel_rfl) (by kernel_rfl) (fun K hK=>?_)
 simp only[Act.put,List.setIfInBounds_toArray,List.set_cons_succ,List.set_cons_zero]
 refine hK _ ?_
 clear hK K
 refine st_run (v:=.int .i64 rest) (by kernel_rfl) (by go_simp) (fun K hK=>?_)
 simp only[Act.put,List.setIfInBounds_toArray,List.set_cons_succ,List.set_cons_zero]
 refine hK _ ?_
 clear hK K
 refine st_nil ?_
 go_wp2_with fail
 refine cF.mono ?_
 rintro e w6 ⟨rfl,hR⟩
 go_wp2_with fail
 exact hR
theorem r5_at1{Lb T C gb og i n d:Nat}{w7:World}{Q:Exit→Act→World→Prop}{u1 u2 u3 u4 u6 u7 u10 u11 u12 u13 u14 u15 u16 u17 u18 u19 u20 u21 u22 u23 u24 u25 u26 u27 u28 u29 u30 u31 u32 u33 u34 u35 u36 u37 u38 u39 u40 u41 u42 u43 u44 u45 u46 u47 u48 u49 u50 u51 u52 u53 u54 u55 u56 u57 u58 u59 u60 u61 u62 u63 u64 u65 u66 u67 u68 u69 u70 u71 u72 u73 u74 u75 u76 u77 u78 u79 u80 u81 u82 u83 u84 u85 u86 u87 u88 u89 u90 u91 u92:Value}{lb:List UInt8}(hlb:(lb==[])=false)(hlb2:lb.isEmpty=false){pr p tk tv tr rest:Int}{tan df tfn ef:Nat}{Bf Df:Option Addr}
  (x0:w7.cell? ⟨C,0,none⟩=some (.string ⟨lb.toArray⟩)) (x1:w7.cell? ⟨C,1,none⟩=some (.int .i64 pr)) (x2:w7.cell? ⟨C,2,none⟩=some (.int .i64 p)) (x3:w7.cell? ⟨C,3,none⟩=some (.int .i64 tk)) (x4:w7.cell? ⟨C,4,none⟩=some (.int .i64 tv)) (x5:w7.cell? ⟨C,5,none⟩=some (.slice Bf tan df)) (x6:w7.cell? ⟨C,6,none⟩=some (.slice Df tfn ef)) (x7:w7.cell? ⟨C,7,none⟩=some (.int .i64 tr))
  (y0:w7.cell? ⟨T,0,none⟩=some (.slice (some ⟨gb,og,none⟩) n d)) (y1:w7.cell? ⟨T,1,none⟩=some (.int .i64 rest)) (hC:C<w7.heap.size) (hT:T<w7.heap.size) (hi:0<i) (hin:i<n) (hn:n≤1073741824) {pv:List UInt8} (hpv:w7.cell? ⟨gb,og+(i-1)* 8,none⟩=some (.string ⟨pv.toArray⟩)) (hgb:gb<w7.heap.size) (hbl:Op.bytesLess pv lb=true) 
  (R:World→Prop) (cF:Calls Tryz.prog 79 #[.pointer (some ⟨Lb,0,none⟩),.agg #[.string ⟨lb.toArray⟩,.int .i64 pr,.int .i64 p,.int .i64 tk,.int .i64 tv,.slice Bf tan df,.slice Df tfn ef,.int .i64 tr],.int .i64 rest] w7.drew fun e w'=>e = .returned (.bool true)∧R w')
  (hQ:∀ (v20 v21 v22 v23 v24 v25 v26 v27 v28 v29 v30 v31 v32 v33 v34 v35 v36 v37 v38 v39 v40 v41 v42 v43 v44 v45:Value) (w':World),R w'→Q .normal ⟨#[.pointer (some ⟨Lb,0,none⟩),u1,u2,u3,u4,.pointer (some ⟨T,0,none⟩),u6,u7,.int .i64 (i:Int),.pointer (some ⟨C,0,none⟩),u10,u11,u12,u13,u14,u15,u16,u17,u18,u19,v20,v21,v22,v23,v24,v25,v26,v27,v28,v29,v30,v31,v32,v33,v34,v35,v36,v37,v38,v39,v40,v41,v42,v43,v44,v45,.bool false,u47,u48,u49,u50,u51,u52,u53,u54,u55,u56,u57,u58,u59,u60,u61,u62,u63,u64,u65,u66,u67,u68,u69,u70,u71,u72,u73,u74,u75,u76,u77,u78,u79,u80,u81,u82,u83,u84,u85,u86,u87,u88,u89,u90,u91,u92],[]⟩ w'):
  Code.wp Tryz.prog reg5 Q ⟨#[.pointer (some ⟨Lb,0,none⟩),u1,u2,u3,u4,.pointer (some ⟨T,0,none⟩),u6,u7,.int .i64 (i:Int),.pointer (some ⟨C,0,none⟩),u10,u11,u12,u13,u14,u15,u16,u17,u18,u19,u20,u21,u22,u23,u24,u25,u26,u27,u28,u29,u30,u31,u32,u33,u34,u35,u36,u37,u38,u39,u40,u41,u42,u43,u44,u45,u46,u47,u48,u49,u50,u51,u52,u53,u54,u55,u56,u57,u58,u59,u60,u61,u62,u63,u64,u65,u66,u67,u68,u69,u70,u71,u72,u73,u74,u75,u76,u77,u78,u79,u80,u81,u82,u83,u84,u85,u86,u87,u88,u89,u90,u91,u92],[]⟩ w7:=by
 have q1:decide ((0:Int)<(i:Int))=true:=by simp;omega
 have q2:IntKind.i64.wrap ((i:Int)-1)=((i-1:Nat):Int):=(IntWalk.i64_in _ (by omega)).trans (by omega)
 have q3:((i-1:Nat):Int)<(n:Int):=by omega
 have q4:(0:Int)≤((i-1:Nat):Int):=by omega
 conv=>arg 2;whnf
 refine wp_region_still_tail 24 (by kernel_rfl) (by kernel_rfl) ?_
 simp only[List.take_succ_cons,List.take_zero,List.drop_succ_cons,List.drop_zero]
 change wpStill _ _ w7.drew _ _ _
 refine st_of ?_
 refine st_run (v:=.pointer (some ⟨C,0,none⟩)) (by kernel_rfl) (by kernel_rfl) (fun K hK=>?_)
 simp only[Act.put,List.setIfInBounds_toArray,List.set_cons_succ,List.set_cons_zero]
 refine hK _ ?_
 clear hK K
 refine st_run (v:=.string ⟨lb.toArray⟩) (by kernel_rfl) (by go_simp) (fun K hK=>?_)
 simp only[Act.put,List.setIfInBounds_toArray,List.set_cons_succ,List.set_cons_zero]
 refine hK _ ?_
 clear hK K
 refine st_run (v:=.bool false) (by kernel_rfl) (by go_simp) (fun K hK=>?_)
 simp only[Act.put,List.setIfInBounds_toArray,List.set_cons_succ,List.set_cons_zero]
 refine hK _ ?_
 clear hK K
 refine st_run (v:=.bool false) (by kernel_rfl) (by kernel_rfl) (fun K hK=>?_)
 simp only[Act.put,List.setIfInBounds_toArray,List.set_cons_succ,List.set_cons_zero]
 refine hK _ ?_
 clear hK K
 refine st_run (v:=.int .i64 (i:Int)) (by kernel_rfl) (by kernel_rfl) (fun K hK=>?_)
 simp only[Act.put,List.setIfInBounds_toArray,List.set_cons_succ,List.set_cons_zero]
 refine hK _ ?_
 clear hK K
 refine st_run (v:=.bool true) (by kernel_rfl) (by go_simp) (fun K hK=>?_)
 simp only[Act.put,List.setIfInBounds_toArray,List.set_cons_succ,List.set_cons_zero]
 refine hK _ ?_
 clear hK K
 refine st_run (v:=.bool true) (by kernel_rfl) (by kernel_rfl) (fun K hK=>?_)
 simp only[Act.put,List.setIfInBounds_toArray,List.set_cons_succ,List.set_cons_zero]
 refine hK _ ?_
 clear hK K
 refine st_run (v:=.pointer (some ⟨T,0,none⟩)) (by kernel_rfl) (by kernel_rfl) (fun K hK=>?_)
 simp only[Act.put,List.setIfInBounds_toArray,List.set_cons_succ,List.set_cons_zero]
 refine hK _ ?_
 clear hK K
 refine st_run (v:=.slice (some ⟨gb,og,none⟩) n d) (by kernel_rfl) (by go_simp) (fun K hK=>?_)
 simp only[Act.put,List.setIfInBounds_toArray,List.set_cons_succ,List.set_cons_zero]
 refine hK _ ?_
 clear hK K
 refine st_run (v:=.int .i64 (i:Int)) (by kernel_rfl) (by kernel_rfl) (fun K hK=>?_)
 simp only[Act.put,List.setIfInBounds_toArray,List.set_cons_succ,List.set_cons_zero]
 refine hK _ ?_
 clear hK K
 refine st_run (v:=.int .i64 ((i-1:Nat):Int)) (by kernel_rfl) (by go_simp) (fun K hK=>?_)
 simp only[Act.put,List.setIfInBounds_toArray,List.set_cons_succ,List.set_cons_zero]
 refine hK _ ?_
 clear hK K
 refine st_run (v:=.pointer (some ⟨gb,og+(i-1)* 8,none⟩)) (by kernel_rfl) (by go_simp) (fun K hK=>?_)
 simp only[Act.put,List.setIfInBounds_toArray,List.set_cons_succ,List.set_cons_zero]
 refine hK _ ?_
 clear hK K
 refine st_run (v:=.pointer (some ⟨gb,og+(i-1)* 8,none⟩)) (by kernel_rfl) (by go_simp) (fun K hK=>?_)
 simp only[Act.put,List.setIfInBounds_toArray,List.set_cons_succ,List.set_cons_zero]
 refine hK _ ?_
 clear hK K
 refine st_run (v:=.string ⟨pv.toArray⟩) (by kernel_rfl) (by go_simp) (fun K hK=>?_)
 simp only[Act.put,List.setIfInBounds_toArray,List.set_cons_succ,List.set_cons_zero]
 refine hK _ ?_
 clear hK K
 refine st_run (v:=.pointer (some ⟨C,0,none⟩)) (by kernel_rfl) (by kernel_rfl) (fun K hK=>?_)
 simp only[Act.put,List.setIfInBounds_toArray,List.set_cons_succ,List.set_cons_zero]
 refine hK _ ?_
 clear hK K
 refine st_run (v:=.string ⟨lb.toArray⟩) (by kernel_rfl) (by go_simp) (fun K hK=>?_)
 simp only[Act.put,List.setIfInBounds_toArray,List.set_cons_succ,List.set_cons_zero]
 refine hK _ ?_
 clear hK K
 refine st_run (v:=.bool false) (by kernel_rfl) (by go_simp) (fun K hK=>?_)
 simp only[Act.put,List.setIfInBounds_toArray,List.set_cons_succ,List.set_cons_zero]
 refine hK _ ?_
 clear hK K
 refine st_run (v:=.bool false) (by kernel_rfl) (by kernel_rfl) (fun K hK=>?_)
 simp only[Act.put,List.setIfInBounds_toArray,List.set_cons_succ,List.set_cons_zero]
 refine hK _ ?_
 clear hK K
 refine st_run (v:=.bool false) (by kernel_rfl) (by kernel_rfl) (fun K hK=>?_)
 simp only[Act.put,List.setIfInBounds_toArray,List.set_cons_succ,List.set_cons_zero]
 refine hK _ ?_
 clear hK K
 refine st_run (v:=.bool false) (by kernel_rfl) (by kernel_rfl) (fun K hK=>?_)
 simp only[Act.put,List.setIfInBounds_toArray,List.set_cons_succ,List.set_cons_zero]
 refine hK _ ?_
 clear hK K
 refine st_run (v:=.pointer (some ⟨Lb,0,none⟩)) (by kernel_rfl) (by kernel_rfl) (fun K hK=>?_)
 simp only[Act.put,List.setIfInBounds_toArray,List.set_cons_succ,List.set_cons_zero]
 refine hK _ ?_
 clear hK K
 refine st_run (v:=.agg #[.string ⟨lb.toArray⟩,.int .i64 pr,.int .i64 p,.int .i64 tk,.int .i64 tv,.slice Bf tan df,.slice Df tfn ef,.int .i64 tr]) (by kernel_rfl) (by go_simp) (fun K hK=>?_)
 simp only[Act.put,List.setIfInBounds_toArray,List.set_cons_succ,List.set_cons_zero]
 refine hK _ ?_
 clear hK K
 refine st_run (v:=.pointer (some ⟨T,1,none⟩)) (by kernel_rfl) (by kernel_rfl) (fun K hK=>?_)
 simp only[Act.put,List.setIfInBounds_toArray,List.set_cons_succ,List.set_cons_zero]
 refine hK _ ?_
 clear hK K
 refine st_run (v:=.int .i64 rest) (by kernel_rfl) (by go_simp) (fun K hK=>?_)
 simp only[Act.put,List.setIfInBounds_toArray,List.set_cons_succ,List.set_cons_zero]
 refine hK _ ?_
 clear hK K
 refine st_nil ?_
 go_wp2_with fail
 refine cF.mono ?_
 rintro e w6 ⟨rfl,hR⟩
 go_wp2_with fail
 exact hR
section
variable [LoB]
attribute [local instance] Ex.no
noncomputable def rg(n:Nat):Code:=(Tryz.f42.body.bind (findReg n)).getD .skip
theorem bytesLess_ltB:∀ a b:List UInt8,Op.bytesLess a b=ltB a b
 | [],[]=>rfl
 | [],_::_=>rfl
 | _::_,[]=>rfl
 | a::x,b::y=>by
  rw[Op.bytesLess,ltB,bytesLess_ltB x y]
  have e1:decide (a<b)=decide (a.toNat<b.toNat):=by simp[UInt8.lt_iff_toNat_lt]
  have e2:(a==b)=(a.toNat==b.toNat):=by rw[Bool.eq_iff_iff];simp[UInt8.toNat_inj]
  rw[e1,e2]
def findBlk(n:Nat):Code→Option Code
 | .seq a b=>(findBlk n a).or (findBlk n b)
 | .cond _ a b=>(findBlk n a).or (findBlk n b)
 | .block i c=>if i==n then some (.block i c)else findBlk n c
 | .loop c=>findBlk n c
 | .scope c=>findBlk n c
 | _=>none
noncomputable def bk0:Code:=(Tryz.f42.body.bind (findBlk 0)).getD .skip
theorem rsw{base:Nat}{P:List UInt8→Prop}{Mb:Nat}{l:List (Int×Fct)}{b:Bool}{W:World}{Lb T c d:Nat}{A B:Option Addr}{k v rest:Int}{args:List TyT}{fs:List Fd}{w:World}(HL0:Hid (LookAt w base P Lb Mb l b))(HF0:Hid (Fr [] W w))(HG0:Hid (w.heap[T]?=some (.cells #[.int .i64 k,.int .i64 v,.slice A args.length c,.slice B fs.length d,.int .i64 rest] 27 (0,0))))(hTL:T≠Lb∧T≠Mb){Q:Exit→Act→World→Prop}{u1 u2 u5 u6 u7 u8 u9 u10 u12 u13 u14 u15 u16 u17 u18 u19 u20 u21 u22 u23 u24 u25 u26 u27 u28 u29 u30 u31 u32 u33 u34 u35 u36 u37 u38 u39 u40 u41 u42 u43 u44 u45 u46 u47 u48 u49 u50 u51 u52 u53 u54 u55 u56 u57 u58 u59 u60 u61 u62 u63 u64 u65 u66 u67 u68 u69 u70 u71 u72 u73 u74 u75 u76 u77 u78 u79 u80 u81 u82 u83 u84 u85 u86 u87 u88 u89 u90 u91 u92 u93 u94 u95 u96 u97 u98 u99 u100 u101 u102 u103 u104 u105 u106 u107 u108 u109 u110 u111 u112 u113 u114 u115 u116 u117 u118 u119 u120 u121 u122 u123 u124 u125 u126 u127 u128 u129 u130 u131 u132 u133 u134 u135 u136 u137 u138 u139 u140 u141 u142 u143 u144 u145 u146 u147 u148 u149 u150 u151 u152 u153 u154 u155 u156 u157 u158 u159 u160 u161 u162 u163 u164 u165 u166 u167 u168 u169 u170 u171 u172 u173 u174 u175 u176 u177 u178 u179 u180 u181 u182 u183 u184 u185 u186 u187 u188 u189 u190 u191 u192 u193 u194 u195 u196 u197 u198 u199 u200 u201 u202 u203 u204 u205 u206 u207 u208 u209 u210 u211 u212 u213 u214 u215 u216 u217 u218 u219 u220 u221 u222 u223 u224 u225 u226 u227 u228 u229 u230 u231 u232 u233 u234 u235 u236 u237 u238 u239 u240 u241 u242 u243 u244 u245:Value}
  (hQ:∀ (v12 v13 v14 v15 v16 v17 v18 v19 v20 v21 v22 v23 v24 v25 v26 v27 v28 v29 v30 v31 v32 v33:Value) (want:Int) (m1:List (Int×Fct)) (b1:Bool) (w':World),Hid (LookAt w' base P Lb Mb m1 b1)→Hid (b=true→b1=true)→Hid (b1=false→(k=1∧nameBad l v 1=false∧m1=nameL l v 1∧want=0)∨(k≠1∧m1=l∧∃ n,argN k=some n∧want=n))→Hid (Fr [Lb,Mb] W w')→Hid (w'.heap[T]?=some (.cells #[.int .i64 k,.int .i64 v,.slice A args.length c,.slice B fs.length d,.int .i64 rest] 27 (0,0)))→Q .normal ⟨#[.pointer (some ⟨Lb,0,none⟩),u1,u2,.pointer (some ⟨T,0,none⟩),.int .i64 want,u5,u6,u7,u8,u9,u10,.int .i64 k,v12,v13,v14,v15,v16,v17,v18,v19,v20,v21,v22,v23,v24,v25,v26,v27,v28,v29,v30,v31,v32,v33,u34,u35,u36,u37,u38,u39,u40,u41,u42,u43,u44,u45,u46,u47,u48,u49,u50,u51,u52,u53,u54,u55,u56,u57,u58,u59,u60,u61,u62,u63,u64,u65,u66,u67,u68,u69,u70,u71,u72,u73,u74,u75,u76,u77,u78,u79,u80,u81,u82,u83,u84,u85,u86,u87,u88,u89,u90,u91,u92,u93,u94,u95,u96,u97,u98,u99,u100,u101,u102,u103,u104,u105,u106,u107,u108,u109,u110,u111,u112,u113,u114,u115,u116,u117,u118,u119,u120,u121,u122,u123,u124,u125,u126,u127,u128,u129,u130,u131,u132,u133,u134,u135,u136,u137,u138,u139,u140,u141,u142,u143,u144,u145,u146,u147,u148,u149,u150,u151,u152,u153,u154,u155,u156,u157,u158,u159,u160,u161,u162,u163,u164,u165,u166,u167,u168,u169,u170,u171,u172,u173,u174,u175,u176,u177,u178,u179,u180,u181,u182,u183,u184,u185,u186,u187,u188,u189,u190,u191,u192,u193,u194,u195,u196,u197,u198,u199,u200,u201,u202,u203,u204,u205,u206,u207,u208,u209,u210,u211,u212,u213,u214,u215,u216,u217,u218,u219,u220,u221,u222,u223,u224,u225,u226,u227,u228,u229,u230,u231,u232,u233,u234,u235,u236,u237,u238,u239,u240,u241,u242,u243,u244,u245],[]⟩ w'):Code.wp Tryz.prog bk0 Q ⟨#[.pointer (some ⟨Lb,0,none⟩),u1,u2,.pointer (some ⟨T,0,none⟩),.int .i64 0,u5,u6,u7,u8,u9,u10,.int .i64 k,u12,u13,u14,u15,u16,u17,u18,u19,u20,u21,u22,u23,u24,u25,u26,u27,u28,u29,u30,u31,u32,u33,u34,u35,u36,u37,u38,u39,u40,u41,u42,u43,u44,u45,u46,u47,u48,u49,u50,u51,u52,u53,u54,u55,u56,u57,u58,u59,u60,u61,u62,u63,u64,u65,u66,u67,u68,u69,u70,u71,u72,u73,u74,u75,u76,u77,u78,u79,u80,u81,u82,u83,u84,u85,u86,u87,u88,u89,u90,u91,u92,u93,u94,u95,u96,u97,u98,u99,u100,u101,u102,u103,u104,u105,u106,u107,u108,u109,u110,u111,u112,u113,u114,u115,u116,u117,u118,u119,u120,u121,u122,u123,u124,u125,u126,u127,u128,u129,u130,u131,u132,u133,u134,u135,u136,u137,u138,u139,u140,u141,u142,u143,u144,u145,u146,u147,u148,u149,u150,u151,u152,u153,u154,u155,u156,u157,u158,u159,u160,u161,u162,u163,u164,u165,u166,u167,u168,u169,u170,u171,u172,u173,u174,u175,u176,u177,u178,u179,u180,u181,u182,u183,u184,u185,u186,u187,u188,u189,u190,u191,u192,u193,u194,u195,u196,u197,u198,u199,u200,u201,u202,u203,u204,u205,u206,u207,u208,u209,u210,u211,u212,u213,u214,u215,u216,u217,u218,u219,u220,u221,u222,u223,u224,u225,u226,u227,u228,u229,u230,u231,u232,u233,u234,u235,u236,u237,u238,u239,u240,u241,u242,u243,u244,u245],[]⟩ w:=by
 conv=>arg 2;whnf
 obtain⟨⟨l0,l1,l2,l3,l4⟩,_⟩:=cells5 HG0.out
 have hgs:=lt_of_heap HG0.out
 obtain⟨c0,c1,z1⟩:=HL0.out.cells
 have hLm:=HL0.out.lt
 by_cases h1:k=1
 ·have q1:(k==1)=true:=by simp[h1]
  have H1:=Lib.hid h1
  clear h1
  go_wp2_with fail
  refine(rname_any HL0.out v 1).mono ?_
  rintro e w6 ⟨rfl,hl6,f6⟩
  have HL6:=Lib.hid hl6
  have HF6:=Lib.hid ((HF0.out.mono (L':=[Lb,Mb]) (fun x hx=>by cases hx)).trans f6)
  have HG6:=Lib.hid (f6.keep HG0.out (by simp;omega))
  clear hl6 f6
  go_wp2_with fail
  exact hQ _ _ _ _ _ _ _ _ _ _ _ _ _ _ _ _ _ _ _ _ _ _ (0) (_) (_) _ (HL6) (Lib.hid (fun h=>by rw[h];rfl)) (Lib.hid (fun h => .inl ⟨H1.out,by rw[Bool.or_eq_false_iff] at h;exact h.2,rfl,rfl⟩)) (HF6) (HG6)
 ·have q1:(k==1)=false:=beq_eq_false_iff_ne.2 h1
  have H1:=Lib.hid h1
  have HF6:=Lib.hid (HF0.out.mono (L':=[Lb,Mb]) (fun x hx=>by cases hx))
  have HBB:Hid (b=true→b=true):=Lib.hid id
  clear h1
  have HBT:=Lib.hid (HL0.out.bad true)
  have HFT:=Lib.hid (HF6.out.trans ((LookAt.setBad_fr w Lb true).mono (L':=[Lb,Mb]) (fun x hx => .inl (by simp at hx;simp[hx]))))
  have HGT:=Lib.hid ((LookAt.setBad_fr w Lb true).keep HG0.out (by simp;omega))
  by_cases h2:k=2
  ·subst h2
   clear HBT HFT HGT
   go_wp2_with fail
   exact hQ _ _ _ _ _ _ _ _ _ _ _ _ _ _ _ _ _ _ _ _ _ _ (0) (l) (b) _ (HL0) (HBB) (Lib.hid (fun _ => .inr ⟨by decide,rfl,0,by decide,rfl⟩)) (HF6) (HG0)
  have q12:(k==2)=false:=beq_eq_false_iff_ne.2 h2
  clear h2
  by_cases h2:k=3
  ·subst h2
   clear HBT HFT HGT
   go_wp2_with fail
   exact hQ _ _ _ _ _ _ _ _ _ _ _ _ _ _ _ _ _ _ _ _ _ _ (0) (l) (b) _ (HL0) (HBB) (Lib.hid (fun _ => .inr ⟨by decide,rfl,0,by decide,rfl⟩)) (HF6) (HG0)
  have q13:(k==3)=false:=beq_eq_false_iff_ne.2 h2
  clear h2
  by_cases h2:k=4
  ·subst h2
   clear HBT HFT HGT
   go_wp2_with fail
   exact hQ _ _ _ _ _ _ _ _ _ _ _ _ _ _ _ _ _ _ _ _ _ _ (0) (l) (b) _ (HL0) (HBB) (Lib.hid (fun _ => .inr ⟨by decide,rfl,0,by decide,rfl⟩)) (HF6) (HG0)
  have q14:(k==4)=false:=beq_eq_false_iff_ne.2 h2
  clear h2
  by_cases h2:k=5
  ·subst h2
   clear HBT HFT HGT
   go_wp2_with fail
   exact hQ _ _ _ _ _ _ _ _ _ _ _ _ _ _ _ _ _ _ _ _ _ _ (0) (l) (b) _ (HL0) (HBB) (Lib.hid (fun _ => .inr ⟨by decide,rfl,0,by decide,rfl⟩)) (HF6) (HG0)
  have q15:(k==5)=false:=beq_eq_false_iff_ne.2 h2
  clear h2
  by_cases h2:k=6
  ·subst h2
   clear HBT HFT HGT
   go_wp2_with fail
   exact hQ _ _ _ _ _ _ _ _ _ _ _ _ _ _ _ _ _ _ _ _ _ _ (0) (l) (b) _ (HL0) (HBB) (Lib.hid (fun _ => .inr ⟨by decide,rfl,0,by decide,rfl⟩)) (HF6) (HG0)
  have q16:(k==6)=false:=beq_eq_false_iff_ne.2 h2
  clear h2
  by_cases h2:k=10
  ·subst h2
   clear HBT HFT HGT
   go_wp2_with fail
   exact hQ _ _ _ _ _ _ _ _ _ _ _ _ _ _ _ _ _ _ _ _ _ _ (0) (l) (b) _ (HL0) (HBB) (Lib.hid (fun _ => .inr ⟨by decide,rfl,0,by decide,rfl⟩)) (HF6) (HG0)
  have q20:(k==10)=false:=beq_eq_false_iff_ne.2 h2
  clear h2
  by_cases h2:k=11
  ·subst h2
   clear HBT HFT HGT
   go_wp2_with fail
   exact hQ _ _ _ _ _ _ _ _ _ _ _ _ _ _ _ _ _ _ _ _ _ _ (0) (l) (b) _ (HL0) (HBB) (Lib.hid (fun _ => .inr ⟨by decide,rfl,0,by decide,rfl⟩)) (HF6) (HG0)
  have q21:(k==11)=false:=beq_eq_false_iff_ne.2 h2
  clear h2
  by_cases h2:k=8
  ·subst h2
   clear HBT HFT HGT
   go_wp2_with fail
   exact hQ _ _ _ _ _ _ _ _ _ _ _ _ _ _ _ _ _ _ _ _ _ _ (1) (l) (b) _ (HL0) (HBB) (Lib.hid (fun _ => .inr ⟨by decide,rfl,1,by decide,rfl⟩)) (HF6) (HG0)
  have q18:(k==8)=false:=beq_eq_false_iff_ne.2 h2
  clear h2
  by_cases h2:k=9
  ·subst h2
   clear HBT HFT HGT
   go_wp2_with fail
   exact hQ _ _ _ _ _ _ _ _ _ _ _ _ _ _ _ _ _ _ _ _ _ _ (1) (l) (b) _ (HL0) (HBB) (Lib.hid (fun _ => .inr ⟨by decide,rfl,1,by decide,rfl⟩)) (HF6) (HG0)
  have q19:(k==9)=false:=beq_eq_false_iff_ne.2 h2
  clear h2
  by_cases h2:k=7
  ·subst h2
   clear HBT HFT HGT
   go_wp2_with fail
   exact hQ _ _ _ _ _ _ _ _ _ _ _ _ _ _ _ _ _ _ _ _ _ _ (2) (l) (b) _ (HL0) (HBB) (Lib.hid (fun _ => .inr ⟨by decide,rfl,2,by decide,rfl⟩)) (HF6) (HG0)
  have q17:(k==7)=false:=beq_eq_false_iff_ne.2 h2
  clear h2
  go_wp2_with fail
  exact hQ _ _ _ _ _ _ _ _ _ _ _ _ _ _ _ _ _ _ _ _ _ _ (0) (l) (true) _ (HBT) (Lib.hid (fun _=>rfl)) (Lib.hid (fun h=>(by cases h))) (HFT) (HGT)
theorem r18{want:Int}{Lb T c d:Nat}{A B:Option Addr}{k v rest:Int}{args:List TyT}{fs:List Fd}{w:World}(l0:w.cell? ⟨T,0,none⟩=some (.int .i64 k))(l1:w.cell? ⟨T,1,none⟩=some (.int .i64 v))(l2:w.cell? ⟨T,2,none⟩=some (.slice A args.length c))(l3:w.cell? ⟨T,3,none⟩=some (.slice B fs.length d))(l4:w.cell? ⟨T,4,none⟩=some (.int .i64 rest))(hgs1:T<w.heap.size){Q:Exit→Act→World→Prop}{u1 u2 u5 u6 u7 u8 u9 u10 u11 u12 u13 u14 u15 u16 u17 u18 u19 u20 u21 u22 u23 u24 u25 u26 u27 u28 u29 u30 u31 u32 u33 u34 u35 u36 u37 u38 u39 u40 u41 u42 u43 u44 u45 u46 u47 u48 u49 u50 u51 u52 u53 u54 u55 u56 u57 u58 u59 u60 u61 u62 u63 u64 u65 u66 u67 u68 u69 u70 u71 u72 u73 u74 u75 u76 u77 u78 u79 u80 u81 u82 u83 u84 u85 u86 u87 u88 u89 u90 u91 u92 u93 u94 u95 u96 u97 u98 u99 u100 u101 u102 u103 u104 u105 u106 u107 u108 u109 u110 u111 u112 u113 u114 u115 u116 u117 u118 u119 u120 u121 u122 u123 u124 u125 u126 u127 u128 u129 u130 u131 u132 u133 u134 u135 u136 u137 u138 u139 u140 u141 u142 u143 u144 u145 u146 u147 u148 u149 u150 u151 u152 u153 u154 u155 u156 u157 u158 u159 u160 u161 u162 u163 u164 u165 u166 u167 u168 u169 u170 u171 u172 u173 u174 u175 u176 u177 u178 u179 u180 u181 u182 u183 u184 u185 u186 u187 u188 u189 u190 u191 u192 u193 u194 u195 u196 u197 u198 u199 u200 u201 u202 u203 u204 u205 u206 u207 u208 u209 u210 u211 u212 u213 u214 u215 u216 u217 u218 u219 u220 u221 u222 u223 u224 u225 u226 u227 u228 u229 u230 u231 u232 u233 u234 u235 u236 u237 u238 u239 u240 u241 u242 u243 u244 u245:Value}
  (hQ:∀ (v34 v35 v36 v37 v38 v39 v40 v41 v42 v43 v44 v45 v46 v47 v48 v49 v50 v51 v52 v53 v54 v55 v56 v57 v58 v59 v60 v61 v62 v63 v64 v65 v66 v67 v68 v69 v70 v71:Value) (bb:Bool) (w':World),Hid (bb=false→(args.length:Int)=want∧(k=1∨v=0)∧(rwd k=true∨(fs.length=0∧rest=0))∧0≤rest)→Hid (Fr [] w w')→Q .normal ⟨#[.pointer (some ⟨Lb,0,none⟩),u1,u2,.pointer (some ⟨T,0,none⟩),.int .i64 want,u5,u6,u7,u8,u9,u10,u11,u12,u13,u14,u15,u16,u17,u18,u19,u20,u21,u22,u23,u24,u25,u26,u27,u28,u29,u30,u31,u32,u33,v34,v35,v36,v37,v38,v39,v40,v41,v42,v43,v44,v45,v46,v47,v48,v49,v50,v51,v52,v53,v54,v55,v56,v57,v58,v59,v60,v61,v62,v63,v64,v65,v66,v67,v68,v69,v70,v71,.bool bb,u73,u74,u75,u76,u77,u78,u79,u80,u81,u82,u83,u84,u85,u86,u87,u88,u89,u90,u91,u92,u93,u94,u95,u96,u97,u98,u99,u100,u101,u102,u103,u104,u105,u106,u107,u108,u109,u110,u111,u112,u113,u114,u115,u116,u117,u118,u119,u120,u121,u122,u123,u124,u125,u126,u127,u128,u129,u130,u131,u132,u133,u134,u135,u136,u137,u138,u139,u140,u141,u142,u143,u144,u145,u146,u147,u148,u149,u150,u151,u152,u153,u154,u155,u156,u157,u158,u159,u160,u161,u162,u163,u164,u165,u166,u167,u168,u169,u170,u171,u172,u173,u174,u175,u176,u177,u178,u179,u180,u181,u182,u183,u184,u185,u186,u187,u188,u189,u190,u191,u192,u193,u194,u195,u196,u197,u198,u199,u200,u201,u202,u203,u204,u205,u206,u207,u208,u209,u210,u211,u212,u213,u214,u215,u216,u217,u218,u219,u220,u221,u222,u223,u224,u225,u226,u227,u228,u229,u230,u231,u232,u233,u234,u235,u236,u237,u238,u239,u240,u241,u242,u243,u244,u245],[]⟩ w'):Code.wp Tryz.prog (rg 18) Q ⟨#[.pointer (some ⟨Lb,0,none⟩),u1,u2,.pointer (some ⟨T,0,none⟩),.int .i64 want,u5,u6,u7,u8,u9,u10,u11,u12,u13,u14,u15,u16,u17,u18,u19,u20,u21,u22,u23,u24,u25,u26,u27,u28,u29,u30,u31,u32,u33,u34,u35,u36,u37,u38,u39,u40,u41,u42,u43,u44,u45,u46,u47,u48,u49,u50,u51,u52,u53,u54,u55,u56,u57,u58,u59,u60,u61,u62,u63,u64,u65,u66,u67,u68,u69,u70,u71,u72,u73,u74,u75,u76,u77,u78,u79,u80,u81,u82,u83,u84,u85,u86,u87,u88,u89,u90,u91,u92,u93,u94,u95,u96,u97,u98,u99,u100,u101,u102,u103,u104,u105,u106,u107,u108,u109,u110,u111,u112,u113,u114,u115,u116,u117,u118,u119,u120,u121,u122,u123,u124,u125,u126,u127,u128,u129,u130,u131,u132,u133,u134,u135,u136,u137,u138,u139,u140,u141,u142,u143,u144,u145,u146,u147,u148,u149,u150,u151,u152,u153,u154,u155,u156,u157,u158,u159,u160,u161,u162,u163,u164,u165,u166,u167,u168,u169,u170,u171,u172,u173,u174,u175,u176,u177,u178,u179,u180,u181,u182,u183,u184,u185,u186,u187,u188,u189,u190,u191,u192,u193,u194,u195,u196,u197,u198,u199,u200,u201,u202,u203,u204,u205,u206,u207,u208,u209,u210,u211,u212,u213,u214,u215,u216,u217,u218,u219,u220,u221,u222,u223,u224,u225,u226,u227,u228,u229,u230,u231,u232,u233,u234,u235,u236,u237,u238,u239,u240,u241,u242,u243,u244,u245],[]⟩ w:=by
 conv=>arg 2;whnf
 have HR0:=Lib.hid (Fr.refl [] w)
 have cR:=Lib.hid (rowed_any (W:=w) k v rest A B args.length fs.length c d)
 by_cases a1:(args.length:Int)=want
 ·have q1:((args.length:Int)!=want)=false:=by simp[a1]
  have A1:=Lib.hid a1
  clear a1
  by_cases a2:k=1
  ·have q2:(k != 1)=false:=by simp[a2]
   have A2:Hid (k=1∨v=0):=Lib.hid (.inl a2)
   clear a2
   cases hr:rwd k with
   | true =>
    rw[hr] at cR
    have HR:=Lib.hid hr
    clear hr
    go_wp2_with fail
    refine cR.out.mono ?_
    rintro e w6 ⟨rfl,f6⟩
    have l3:=kcJ f6 l3 hgs1
    have l4:=kcJ f6 l4 hgs1
    have HF6:=Lib.hid f6
    clear f6
    go_wp2_with fail
    exact hQ _ _ _ _ _ _ _ _ _ _ _ _ _ _ _ _ _ _ _ _ _ _ _ _ _ _ _ _ _ _ _ _ _ _ _ _ _ _ (decide (rest<0)) _ (Lib.hid (fun c=>⟨A1.out,A2.out,.inl HR.out,by have:=of_decide_eq_false c;omega⟩)) HF6
   | false =>
    rw[hr] at cR
    clear hr
    by_cases b1:fs.length=0
    ·have q5:decide ((0:Int)<(fs.length:Int))=false:=by simp[b1]
     have q5':decide (0<fs.length)=false:=by simp[b1]
     have q5'':¬ 0<fs.length:=by omega
     have B1:=Lib.hid b1
     clear b1
     by_cases b2:rest=0
     ·have q6:(rest != 0)=false:=by simp[b2]
      have B2:=Lib.hid b2
      clear b2
      go_wp2_with fail
      refine cR.out.mono ?_
      rintro e w6 ⟨rfl,f6⟩
      have l3:=kcJ f6 l3 hgs1
      have l4:=kcJ f6 l4 hgs1
      have HF6:=Lib.hid f6
      clear f6
      go_wp2_with fail
      exact hQ _ _ _ _ _ _ _ _ _ _ _ _ _ _ _ _ _ _ _ _ _ _ _ _ _ _ _ _ _ _ _ _ _ _ _ _ _ _ (decide (rest<0)) _ (Lib.hid (fun c=>⟨A1.out,A2.out,.inr ⟨B1.out,B2.out⟩,by have:=of_decide_eq_false c;omega⟩)) HF6
     ·have q6:(rest != 0)=true:=by simp[b2]
      clear b2
      go_wp2_with fail
      refine cR.out.mono ?_
      rintro e w6 ⟨rfl,f6⟩
      have l3:=kcJ f6 l3 hgs1
      have l4:=kcJ f6 l4 hgs1
      have HF6:=Lib.hid f6
      clear f6
      go_wp2_with fail
      exact hQ _ _ _ _ _ _ _ _ _ _ _ _ _ _ _ _ _ _ _ _ _ _ _ _ _ _ _ _ _ _ _ _ _ _ _ _ _ _ true _ (Lib.hid (fun c=>by cases c)) HF6
    ·have q5:decide ((0:Int)<(fs.length:Int))=true:=by simp;omega
     have q5':decide (0<fs.length)=true:=by simp;omega
     have q5'':0<fs.length:=by omega
     clear b1
     go_wp2_with fail
     refine cR.out.mono ?_
     rintro e w6 ⟨rfl,f6⟩
     have l3:=kcJ f6 l3 hgs1
     have l4:=kcJ f6 l4 hgs1
     have HF6:=Lib.hid f6
     clear f6
     go_wp2_with fail
     exact hQ _ _ _ _ _ _ _ _ _ _ _ _ _ _ _ _ _ _ _ _ _ _ _ _ _ _ _ _ _ _ _ _ _ _ _ _ _ _ true _ (Lib.hid (fun c=>by cases c)) HF6
  ·have q2:(k != 1)=true:=by simp[a2]
   clear a2
   by_cases a3:v=0
   ·have q3:(v != 0)=false:=by simp[a3]
    have A2:Hid (k=1∨v=0):=Lib.hid (.inr a3)
    clear a3
    cases hr:rwd k with
    | true =>
     rw[hr] at cR
     have HR:=Lib.hid hr
     clear hr
     go_wp2_with fail
     refine cR.out.mono ?_
     rintro e w6 ⟨rfl,f6⟩
     have l3:=kcJ f6 l3 hgs1
     have l4:=kcJ f6 l4 hgs1
     have HF6:=Lib.hid f6
     clear f6
     go_wp2_with fail
     exact hQ _ _ _ _ _ _ _ _ _ _ _ _ _ _ _ _ _ _ _ _ _ _ _ _ _ _ _ _ _ _ _ _ _ _ _ _ _ _ (decide (rest<0)) _ (Lib.hid (fun c=>⟨A1.out,A2.out,.inl HR.out,by have:=of_decide_eq_false c;omega⟩)) HF6
    | false =>
     rw[hr] at cR
     clear hr
     by_cases b1:fs.length=0
     ·have q5:decide ((0:Int)<(fs.length:Int))=false:=by simp[b1]
      have q5':decide (0<fs.length)=false:=by simp[b1]
      have q5'':¬ 0<fs.length:=by omega
      have B1:=Lib.hid b1
      clear b1
      by_cases b2:rest=0
      ·have q6:(rest != 0)=false:=by simp[b2]
       have B2:=Lib.hid b2
       clear b2
       go_wp2_with fail
       refine cR.out.mono ?_
       rintro e w6 ⟨rfl,f6⟩
       have l3:=kcJ f6 l3 hgs1
       have l4:=kcJ f6 l4 hgs1
       have HF6:=Lib.hid f6
       clear f6
       go_wp2_with fail
       exact hQ _ _ _ _ _ _ _ _ _ _ _ _ _ _ _ _ _ _ _ _ _ _ _ _ _ _ _ _ _ _ _ _ _ _ _ _ _ _ (decide (rest<0)) _ (Lib.hid (fun c=>⟨A1.out,A2.out,.inr ⟨B1.out,B2.out⟩,by have:=of_decide_eq_false c;omega⟩)) HF6
      ·have q6:(rest != 0)=true:=by simp[b2]
       clear b2
       go_wp2_with fail
       refine cR.out.mono ?_
       rintro e w6 ⟨rfl,f6⟩
       have l3:=kcJ f6 l3 hgs1
       have l4:=kcJ f6 l4 hgs1
       have HF6:=Lib.hid f6
       clear f6
       go_wp2_with fail
       exact hQ _ _ _ _ _ _ _ _ _ _ _ _ _ _ _ _ _ _ _ _ _ _ _ _ _ _ _ _ _ _ _ _ _ _ _ _ _ _ true _ (Lib.hid (fun c=>by cases c)) HF6
     ·have q5:decide ((0:Int)<(fs.length:Int))=true:=by simp;omega
      have q5':decide (0<fs.length)=true:=by simp;omega
      have q5'':0<fs.length:=by omega
      clear b1
      go_wp2_with fail
      refine cR.out.mono ?_
      rintro e w6 ⟨rfl,f6⟩
      have l3:=kcJ f6 l3 hgs1
      have l4:=kcJ f6 l4 hgs1
      have HF6:=Lib.hid f6
      clear f6
      go_wp2_with fail
      exact hQ _ _ _ _ _ _ _ _ _ _ _ _ _ _ _ _ _ _ _ _ _ _ _ _ _ _ _ _ _ _ _ _ _ _ _ _ _ _ true _ (Lib.hid (fun c=>by cases c)) HF6
   ·have q3:(v != 0)=true:=by simp[a3]
    clear a3
    go_wp2_with fail
    exact hQ _ _ _ _ _ _ _ _ _ _ _ _ _ _ _ _ _ _ _ _ _ _ _ _ _ _ _ _ _ _ _ _ _ _ _ _ _ _ true _ (Lib.hid (fun c=>by cases c)) HR0
 ·have q1:((args.length:Int)!=want)=true:=by simp[a1]
  clear a1
  go_wp2_with fail
  exact hQ _ _ _ _ _ _ _ _ _ _ _ _ _ _ _ _ _ _ _ _ _ _ _ _ _ _ _ _ _ _ _ _ _ _ _ _ _ _ true _ (Lib.hid (fun c=>by cases c)) HR0
theorem r29{Lb T d F9 g og i:Nat}{fs:List Fd}{f:Fd}{w:World}(hlt:i<fs.length)(hfl:fs.length≤1073741824)(x0:w.cell? ⟨F9,0,none⟩=some (.string ⟨f.lb.toArray⟩))(x1:w.cell? ⟨F9,1,none⟩=some (.int .i64 f.pr))(x2:w.cell? ⟨F9,2,none⟩=some (.int .i64 f.p))(hms:F9<w.heap.size)(yT:w.cell? ⟨T,3,none⟩=some (.slice (some ⟨g,og,none⟩) fs.length d))(hTw:T<w.heap.size)(hgw:g<w.heap.size)
  (hprev:(i=0∧∀ p,0<i→fs[i-1]?=some p→ltB p.lb f.lb=true)∨(∃ p,0<i∧fs[i-1]?=some p∧w.cell? ⟨g,og+(i-1)* 8,none⟩=some (.string ⟨p.lb.toArray⟩))) {Q:Exit→Act→World→Prop} {u1 u2 u4 u5 u8 u9 u10 u11 u12 u13 u14 u15 u16 u17 u18 u19 u20 u21 u22 u23 u24 u25 u26 u27 u28 u29 u30 u31 u32 u33 u34 u35 u36 u37 u38 u39 u40 u41 u42 u43 u44 u45 u46 u47 u48 u49 u50 u51 u52 u53 u54 u55 u56 u57 u58 u59 u60 u61 u62 u63 u64 u65 u66 u67 u68 u69 u70 u71 u72 u73 u74 u75 u76 u77 u78 u79 u80 u81 u82 u83 u84 u85 u86 u87 u88 u89 u90 u91 u92 u93 u94 u95 u96 u97 u98 u99 u100 u101 u102 u103 u104 u105 u106 u107 u108 u109 u110 u111 u112 u113 u114 u115 u116 u117 u118 u119 u120 u121 u122 u123 u124 u125 u126 u127 u128 u129 u130 u131 u132 u133 u134 u135 u136 u137 u138 u139 u140 u141 u142 u143 u144 u145 u146 u147 u148 u149 u150 u151 u152 u153 u154 u155 u156 u157 u158 u159 u160 u161 u162 u163 u164 u165 u166 u167 u168 u169 u170 u171 u172 u173 u174 u175 u176 u177 u178 u179 u180 u181 u182 u183 u184 u185 u186 u187 u188 u189 u190 u191 u192 u193 u194 u195 u196 u197 u198 u199 u200 u201 u202 u203 u204 u205 u206 u207 u208 u209 u210 u211 u212 u213 u214 u215 u216 u217 u218 u219 u220 u221 u222 u223 u224 u225 u226 u227 u228 u229 u230 u231 u232 u233 u234 u235 u236 u237 u238 u239 u240 u241 u242 u243 u244 u245:Value}
  (hQ:∀ (v108 v109 v110 v111 v112 v113 v114 v115 v116 v117 v118 v119 v120 v121 v122 v123 v124 v125 v126 v127 v128 v129 v130 v131 v132 v133 v134 v135 v136 v137 v138 v139 v140 v141 v142 v143 v144 v145 v146:Value) (bb:Bool) (w':World),Hid (bb=false→f.lb≠[]∧(∀ p,0<i→fs[i-1]?=some p→ltB p.lb f.lb=true)∧(f.pr=0∨f.pr=1∨f.pr=2)∧(f.pr≠2→f.p=0))→Hid (Fr [] w w')→Q .normal ⟨#[.pointer (some ⟨Lb,0,none⟩),u1,u2,.pointer (some ⟨T,0,none⟩),u4,u5,.int .i64 (i:Int),.pointer (some ⟨F9,0,none⟩),u8,u9,u10,u11,u12,u13,u14,u15,u16,u17,u18,u19,u20,u21,u22,u23,u24,u25,u26,u27,u28,u29,u30,u31,u32,u33,u34,u35,u36,u37,u38,u39,u40,u41,u42,u43,u44,u45,u46,u47,u48,u49,u50,u51,u52,u53,u54,u55,u56,u57,u58,u59,u60,u61,u62,u63,u64,u65,u66,u67,u68,u69,u70,u71,u72,u73,u74,u75,u76,u77,u78,u79,u80,u81,u82,u83,u84,u85,u86,u87,u88,u89,u90,u91,u92,u93,u94,u95,u96,u97,u98,u99,u100,u101,u102,u103,u104,u105,u106,u107,v108,v109,v110,v111,v112,v113,v114,v115,v116,v117,v118,v119,v120,v121,v122,v123,v124,v125,v126,v127,v128,v129,v130,v131,v132,v133,v134,v135,v136,v137,v138,v139,v140,v141,v142,v143,v144,v145,v146,.bool bb,u148,u149,u150,u151,u152,u153,u154,u155,u156,u157,u158,u159,u160,u161,u162,u163,u164,u165,u166,u167,u168,u169,u170,u171,u172,u173,u174,u175,u176,u177,u178,u179,u180,u181,u182,u183,u184,u185,u186,u187,u188,u189,u190,u191,u192,u193,u194,u195,u196,u197,u198,u199,u200,u201,u202,u203,u204,u205,u206,u207,u208,u209,u210,u211,u212,u213,u214,u215,u216,u217,u218,u219,u220,u221,u222,u223,u224,u225,u226,u227,u228,u229,u230,u231,u232,u233,u234,u235,u236,u237,u238,u239,u240,u241,u242,u243,u244,u245],[]⟩ w'):Code.wp Tryz.prog (rg 29) Q ⟨#[.pointer (some ⟨Lb,0,none⟩),u1,u2,.pointer (some ⟨T,0,none⟩),u4,u5,.int .i64 (i:Int),.pointer (some ⟨F9,0,none⟩),u8,u9,u10,u11,u12,u13,u14,u15,u16,u17,u18,u19,u20,u21,u22,u23,u24,u25,u26,u27,u28,u29,u30,u31,u32,u33,u34,u35,u36,u37,u38,u39,u40,u41,u42,u43,u44,u45,u46,u47,u48,u49,u50,u51,u52,u53,u54,u55,u56,u57,u58,u59,u60,u61,u62,u63,u64,u65,u66,u67,u68,u69,u70,u71,u72,u73,u74,u75,u76,u77,u78,u79,u80,u81,u82,u83,u84,u85,u86,u87,u88,u89,u90,u91,u92,u93,u94,u95,u96,u97,u98,u99,u100,u101,u102,u103,u104,u105,u106,u107,u108,u109,u110,u111,u112,u113,u114,u115,u116,u117,u118,u119,u120,u121,u122,u123,u124,u125,u126,u127,u128,u129,u130,u131,u132,u133,u134,u135,u136,u137,u138,u139,u140,u141,u142,u143,u144,u145,u146,u147,u148,u149,u150,u151,u152,u153,u154,u155,u156,u157,u158,u159,u160,u161,u162,u163,u164,u165,u166,u167,u168,u169,u170,u171,u172,u173,u174,u175,u176,u177,u178,u179,u180,u181,u182,u183,u184,u185,u186,u187,u188,u189,u190,u191,u192,u193,u194,u195,u196,u197,u198,u199,u200,u201,u202,u203,u204,u205,u206,u207,u208,u209,u210,u211,u212,u213,u214,u215,u216,u217,u218,u219,u220,u221,u222,u223,u224,u225,u226,u227,u228,u229,u230,u231,u232,u233,u234,u235,u236,u237,u238,u239,u240,u241,u242,u243,u244,u245],[]⟩ w:=by
 conv=>arg 2;whnf
 have q1:(0:Int)≤(i:Int):=by omega
 have q2:(i:Int)<(fs.length:Int):=by omega
 have HT:Hid (∀ P:Prop,true=false→P):=Lib.hid (fun _ c=>by cases c)
 by_cases h0:f.lb=[]
 ·have a1:(f.lb==[])=true:=by simp[h0]
  have a2:f.lb.isEmpty=true:=by simp[h0]
  clear h0
  go_wp2_with fail
  go_quiet (fail)
  go_wp2_with fail
  exact hQ _ _ _ _ _ _ _ _ _ _ _ _ _ _ _ _ _ _ _ _ _ _ _ _ _ _ _ _ _ _ _ _ _ _ _ _ _ _ _ (true) _ (Lib.hid (HT.out _)) (Lib.hid ((Fr.refl [] w).drewN _))
 ·have a1:(f.lb==[])=false:=beq_eq_false_iff_ne.2 h0
  have a2:f.lb.isEmpty=false:=by cases hl:f.lb with|nil=>exact absurd hl h0|cons=>rfl
  have H0:=Lib.hid h0
  clear h0
  rcases hprev with⟨hi0,hp0⟩| ⟨pv,hi0,hpv,y1⟩
  ·have HP0:=Lib.hid hp0
   subst hi0
   clear hp0
   by_cases g1:f.pr<0
   ·have g1b:decide (f.pr<0)=true:=by simp;omega
    go_wp2_with fail
    go_quiet (fail)
    go_wp2_with fail
    exact hQ _ _ _ _ _ _ _ _ _ _ _ _ _ _ _ _ _ _ _ _ _ _ _ _ _ _ _ _ _ _ _ _ _ _ _ _ _ _ _ (true) _ (Lib.hid (HT.out _)) (Lib.hid ((Fr.refl [] w).drewN _))
   ·have g1b:decide (f.pr<0)=false:=by simp;omega
    by_cases g2:2<f.pr
    ·have g2b:decide (2<f.pr)=true:=by simp;omega
     go_wp2_with fail
     go_quiet (fail)
     go_wp2_with fail
     exact hQ _ _ _ _ _ _ _ _ _ _ _ _ _ _ _ _ _ _ _ _ _ _ _ _ _ _ _ _ _ _ _ _ _ _ _ _ _ _ _ (true) _ (Lib.hid (HT.out _)) (Lib.hid ((Fr.refl [] w).drewN _))
    ·have g2b:decide (2<f.pr)=false:=by simp;omega
     have HPR:Hid (f.pr=0∨f.pr=1∨f.pr=2):=Lib.hid (by omega)
     by_cases g3:f.pr=2
     ·have g3a:(f.pr==2)=true:=by simp[g3]
      have g3b:(f.pr != 2)=false:=by simp[g3]
      have HP3:Hid (f.pr≠2→f.p=0):=Lib.hid (fun c=>absurd g3 c)
      clear g3
      go_wp2_with fail
      go_quiet (fail)
      go_wp2_with fail
      first|exact hQ _ _ _ _ _ _ _ _ _ _ _ _ _ _ _ _ _ _ _ _ _ _ _ _ _ _ _ _ _ _ _ _ _ _ _ _ _ _ _ (false) _ (Lib.hid (fun _=>⟨H0.out,HP0.out,HPR.out,HP3.out⟩)) (Lib.hid ((Fr.refl [] w).drewN _))| exact hQ _ _ _ _ _ _ _ _ _ _ _ _ _ _ _ _ _ _ _ _ _ _ _ _ _ _ _ _ _ _ _ _ _ _ _ _ _ _ _ (_) _ (Lib.hid (fun _=>⟨H0.out,HP0.out,HPR.out,HP3.out⟩)) (Lib.hid ((Fr.refl [] w).drewN _))
     ·have g3a:(f.pr==2)=false:=beq_eq_false_iff_ne.2 g3
      have g3b:(f.pr != 2)=true:=by simp[g3]
      clear g3
      by_cases g4:f.p=0
      ·have g4a:(f.p==0)=true:=by simp[g4]
       have g4b:(f.p != 0)=false:=by simp[g4]
       have HP3:Hid (f.pr≠2→f.p=0):=Lib.hid (fun _=>g4)
       clear g4
       go_wp2_with fail
       go_quiet (fail)
       go_wp2_with fail
       first|exact hQ _ _ _ _ _ _ _ _ _ _ _ _ _ _ _ _ _ _ _ _ _ _ _ _ _ _ _ _ _ _ _ _ _ _ _ _ _ _ _ (false) _ (Lib.hid (fun _=>⟨H0.out,HP0.out,HPR.out,HP3.out⟩)) (Lib.hid ((Fr.refl [] w).drewN _))| exact hQ _ _ _ _ _ _ _ _ _ _ _ _ _ _ _ _ _ _ _ _ _ _ _ _ _ _ _ _ _ _ _ _ _ _ _ _ _ _ _ (_) _ (Lib.hid (fun _=>⟨H0.out,HP0.out,HPR.out,HP3.out⟩)) (Lib.hid ((Fr.refl [] w).drewN _))
      ·have g4a:(f.p==0)=false:=beq_eq_false_iff_ne.2 g4
       have g4b:(f.p != 0)=true:=by simp[g4]
       clear g4
       go_wp2_with fail
       go_quiet (fail)
       go_wp2_with fail
       exact hQ _ _ _ _ _ _ _ _ _ _ _ _ _ _ _ _ _ _ _ _ _ _ _ _ _ _ _ _ _ _ _ _ _ _ _ _ _ _ _ (true) _ (Lib.hid (HT.out _)) (Lib.hid ((Fr.refl [] w).drewN _))
  ·have hpz:(0:Int)<(i:Int):=by omega
   have hpz2:decide ((0:Int)<(i:Int))=true:=by simp;omega
   have hpz3:(0:Int)≤(i:Int)-1:=by omega
   have hpz4:(i:Int)-1<(fs.length:Int):=by omega
   have hpz5:((i:Int)-1).toNat=i-1:=by omega
   have hpz6:IntKind.i64.wrap ((i:Int)-1)=((i-1:Nat):Int):=(IntWalk.i64_in _ (by omega)).trans (by omega)
   have hpz7:((i-1:Nat):Int)<(fs.length:Int):=by omega
   have hpz8:(0:Int)≤((i-1:Nat):Int):=by omega
   have HPV2:=Lib.hid hpv
   clear hpv
   cases hbl:Op.bytesLess pv.lb f.lb with
   | false =>
    go_wp2_with fail
    go_quiet (fail)
    go_wp2_with fail
    exact hQ _ _ _ _ _ _ _ _ _ _ _ _ _ _ _ _ _ _ _ _ _ _ _ _ _ _ _ _ _ _ _ _ _ _ _ _ _ _ _ (true) _ (Lib.hid (HT.out _)) (Lib.hid ((Fr.refl [] w).drewN _))
   | true =>
    have HP0:Hid (∀ p,0<i→fs[i-1]?=some p→ltB p.lb f.lb=true):=Lib.hid (fun p _ hp=>by rw[HPV2.out] at hp;cases hp;rw[← bytesLess_ltB];exact hbl)
    by_cases g1:f.pr<0
    ·have g1b:decide (f.pr<0)=true:=by simp;omega
     go_wp2_with fail
     go_quiet (fail)
     go_wp2_with fail
     exact hQ _ _ _ _ _ _ _ _ _ _ _ _ _ _ _ _ _ _ _ _ _ _ _ _ _ _ _ _ _ _ _ _ _ _ _ _ _ _ _ (true) _ (Lib.hid (HT.out _)) (Lib.hid ((Fr.refl [] w).drewN _))
    ·have g1b:decide (f.pr<0)=false:=by simp;omega
     by_cases g2:2<f.pr
     ·have g2b:decide (2<f.pr)=true:=by simp;omega
      go_wp2_with fail
      go_quiet (fail)
      go_wp2_with fail
      exact hQ _ _ _ _ _ _ _ _ _ _ _ _ _ _ _ _ _ _ _ _ _ _ _ _ _ _ _ _ _ _ _ _ _ _ _ _ _ _ _ (true) _ (Lib.hid (HT.out _)) (Lib.hid ((Fr.refl [] w).drewN _))
     ·have g2b:decide (2<f.pr)=false:=by simp;omega
      have HPR:Hid (f.pr=0∨f.pr=1∨f.pr=2):=Lib.hid (by omega)
      by_cases g3:f.pr=2
      ·have g3a:(f.pr==2)=true:=by simp[g3]
       have g3b:(f.pr != 2)=false:=by simp[g3]
       have HP3:Hid (f.pr≠2→f.p=0):=Lib.hid (fun c=>absurd g3 c)
       clear g3
       go_wp2_with fail
       go_quiet (fail)
       go_wp2_with fail
       first|exact hQ _ _ _ _ _ _ _ _ _ _ _ _ _ _ _ _ _ _ _ _ _ _ _ _ _ _ _ _ _ _ _ _ _ _ _ _ _ _ _ (false) _ (Lib.hid (fun _=>⟨H0.out,HP0.out,HPR.out,HP3.out⟩)) (Lib.hid ((Fr.refl [] w).drewN _))| exact hQ _ _ _ _ _ _ _ _ _ _ _ _ _ _ _ _ _ _ _ _ _ _ _ _ _ _ _ _ _ _ _ _ _ _ _ _ _ _ _ (_) _ (Lib.hid (fun _=>⟨H0.out,HP0.out,HPR.out,HP3.out⟩)) (Lib.hid ((Fr.refl [] w).drewN _))
      ·have g3a:(f.pr==2)=false:=beq_eq_false_iff_ne.2 g3
       have g3b:(f.pr != 2)=true:=by simp[g3]
       clear g3
       by_cases g4:f.p=0
       ·have g4a:(f.p==0)=true:=by simp[g4]
        have g4b:(f.p != 0)=false:=by simp[g4]
        have HP3:Hid (f.pr≠2→f.p=0):=Lib.hid (fun _=>g4)
        clear g4
        go_wp2_with fail
        go_quiet (fail)
        go_wp2_with fail
        first|exact hQ _ _ _ _ _ _ _ _ _ _ _ _ _ _ _ _ _ _ _ _ _ _ _ _ _ _ _ _ _ _ _ _ _ _ _ _ _ _ _ (false) _ (Lib.hid (fun _=>⟨H0.out,HP0.out,HPR.out,HP3.out⟩)) (Lib.hid ((Fr.refl [] w).drewN _))| exact hQ _ _ _ _ _ _ _ _ _ _ _ _ _ _ _ _ _ _ _ _ _ _ _ _ _ _ _ _ _ _ _ _ _ _ _ _ _ _ _ (_) _ (Lib.hid (fun _=>⟨H0.out,HP0.out,HPR.out,HP3.out⟩)) (Lib.hid ((Fr.refl [] w).drewN _))
       ·have g4a:(f.p==0)=false:=beq_eq_false_iff_ne.2 g4
        have g4b:(f.p != 0)=true:=by simp[g4]
        clear g4
        go_wp2_with fail
        go_quiet (fail)
        go_wp2_with fail
        exact hQ _ _ _ _ _ _ _ _ _ _ _ _ _ _ _ _ _ _ _ _ _ _ _ _ _ _ _ _ _ _ _ _ _ _ _ _ _ _ _ (true) _ (Lib.hid (HT.out _)) (Lib.hid ((Fr.refl [] w).drewN _))
theorem r38{base F9 dx:Nat}{P:List UInt8→Prop}{lj:List (Int×Fct)}{kn:Bool}{kd pr':Int}{xs:List Fd}{Bx:Option Addr}{Lb T c d:Nat}{A B:Option Addr}{k v rest:Int}{args:List TyT}{fs:List Fd}{w:World}(l0:w.cell? ⟨T,0,none⟩=some (.int .i64 k))(l1:w.cell? ⟨T,1,none⟩=some (.int .i64 v))(l2:w.cell? ⟨T,2,none⟩=some (.slice A args.length c))(l3:w.cell? ⟨T,3,none⟩=some (.slice B fs.length d))(l4:w.cell? ⟨T,4,none⟩=some (.int .i64 rest))(hgs1:T<w.heap.size)(t1:w.cell? ⟨F9,1,none⟩=some (.int .i64 kd))(t7:w.cell? ⟨F9,7,none⟩=some (.int .i64 pr'))(t9:w.cell? ⟨F9,9,none⟩=some (.slice Bx xs.length dx))(hms:F9<w.heap.size)
  (HBD:Hid (rowBad lj rest k (labs fs)=(kn&&(kd != 3||pr' != k||labs xs != labs fs)))) (G18:Hid (FsAt w (· < base) P (.slice Bx xs.length dx) xs)) (HFS8:Hid (FsAt w (· < base) P (.slice B fs.length d) fs)) (G3:Hid (xs.length≤1073741824)) (hfl:fs.length≤1073741824) {Q:Exit→Act→World→Prop} {u1 u2 u4 u5 u6 u7 u10 u11 u12 u13 u14 u15 u16 u17 u18 u19 u20 u21 u22 u23 u24 u25 u26 u27 u28 u29 u30 u31 u32 u33 u34 u35 u36 u37 u38 u39 u40 u41 u42 u43 u44 u45 u46 u47 u48 u49 u50 u51 u52 u53 u54 u55 u56 u57 u58 u59 u60 u61 u62 u63 u64 u65 u66 u67 u68 u69 u70 u71 u72 u73 u74 u75 u76 u77 u78 u79 u80 u81 u82 u83 u84 u85 u86 u87 u88 u89 u90 u91 u92 u93 u94 u95 u96 u97 u98 u99 u100 u101 u102 u103 u104 u105 u106 u107 u108 u109 u110 u111 u112 u113 u114 u115 u116 u117 u118 u119 u120 u121 u122 u123 u124 u125 u126 u127 u128 u129 u130 u131 u132 u133 u134 u135 u136 u137 u138 u139 u140 u141 u142 u143 u144 u145 u146 u147 u148 u149 u150 u151 u152 u153 u154 u155 u156 u157 u158 u159 u160 u161 u162 u163 u164 u165 u166 u167 u168 u169 u170 u171 u172 u173 u174 u175 u176 u177 u178 u179 u180 u181 u182 u183 u184 u185 u186 u187 u188 u189 u190 u191 u192 u193 u194 u195 u196 u197 u198 u199 u200 u201 u202 u203 u204 u205 u206 u207 u208 u209 u210 u211 u212 u213 u214 u215 u216 u217 u218 u219 u220 u221 u222 u223 u224 u225 u226 u227 u228 u229 u230 u231 u232 u233 u234 u235 u236 u237 u238 u239 u240 u241 u242 u243 u244 u245:Value}
  (hQ:∀ (v205 v206 v207 v208 v209 v210 v211 v212 v213 v214 v215 v216 v217 v218 v219 v220 v221 v222 v223 v224 v225 v226:Value) (bb:Bool) (w':World),Hid (bb=false→rowBad lj rest k (labs fs)=false)→Hid (Fr [] w w')→Q .normal ⟨#[.pointer (some ⟨Lb,0,none⟩),u1,u2,.pointer (some ⟨T,0,none⟩),u4,u5,u6,u7,.pointer (some ⟨F9,0,none⟩),.bool kn,u10,u11,u12,u13,u14,u15,u16,u17,u18,u19,u20,u21,u22,u23,u24,u25,u26,u27,u28,u29,u30,u31,u32,u33,u34,u35,u36,u37,u38,u39,u40,u41,u42,u43,u44,u45,u46,u47,u48,u49,u50,u51,u52,u53,u54,u55,u56,u57,u58,u59,u60,u61,u62,u63,u64,u65,u66,u67,u68,u69,u70,u71,u72,u73,u74,u75,u76,u77,u78,u79,u80,u81,u82,u83,u84,u85,u86,u87,u88,u89,u90,u91,u92,u93,u94,u95,u96,u97,u98,u99,u100,u101,u102,u103,u104,u105,u106,u107,u108,u109,u110,u111,u112,u113,u114,u115,u116,u117,u118,u119,u120,u121,u122,u123,u124,u125,u126,u127,u128,u129,u130,u131,u132,u133,u134,u135,u136,u137,u138,u139,u140,u141,u142,u143,u144,u145,u146,u147,u148,u149,u150,u151,u152,u153,u154,u155,u156,u157,u158,u159,u160,u161,u162,u163,u164,u165,u166,u167,u168,u169,u170,u171,u172,u173,u174,u175,u176,u177,u178,u179,u180,u181,u182,u183,u184,u185,u186,u187,u188,u189,u190,u191,u192,u193,u194,u195,u196,u197,u198,u199,u200,u201,u202,u203,u204,v205,v206,v207,v208,v209,v210,v211,v212,v213,v214,v215,v216,v217,v218,v219,v220,v221,v222,v223,v224,v225,v226,.bool bb,u228,u229,u230,u231,u232,u233,u234,u235,u236,u237,u238,u239,u240,u241,u242,u243,u244,u245],[]⟩ w'):Code.wp Tryz.prog (rg 38) Q ⟨#[.pointer (some ⟨Lb,0,none⟩),u1,u2,.pointer (some ⟨T,0,none⟩),u4,u5,u6,u7,.pointer (some ⟨F9,0,none⟩),.bool kn,u10,u11,u12,u13,u14,u15,u16,u17,u18,u19,u20,u21,u22,u23,u24,u25,u26,u27,u28,u29,u30,u31,u32,u33,u34,u35,u36,u37,u38,u39,u40,u41,u42,u43,u44,u45,u46,u47,u48,u49,u50,u51,u52,u53,u54,u55,u56,u57,u58,u59,u60,u61,u62,u63,u64,u65,u66,u67,u68,u69,u70,u71,u72,u73,u74,u75,u76,u77,u78,u79,u80,u81,u82,u83,u84,u85,u86,u87,u88,u89,u90,u91,u92,u93,u94,u95,u96,u97,u98,u99,u100,u101,u102,u103,u104,u105,u106,u107,u108,u109,u110,u111,u112,u113,u114,u115,u116,u117,u118,u119,u120,u121,u122,u123,u124,u125,u126,u127,u128,u129,u130,u131,u132,u133,u134,u135,u136,u137,u138,u139,u140,u141,u142,u143,u144,u145,u146,u147,u148,u149,u150,u151,u152,u153,u154,u155,u156,u157,u158,u159,u160,u161,u162,u163,u164,u165,u166,u167,u168,u169,u170,u171,u172,u173,u174,u175,u176,u177,u178,u179,u180,u181,u182,u183,u184,u185,u186,u187,u188,u189,u190,u191,u192,u193,u194,u195,u196,u197,u198,u199,u200,u201,u202,u203,u204,u205,u206,u207,u208,u209,u210,u211,u212,u213,u214,u215,u216,u217,u218,u219,u220,u221,u222,u223,u224,u225,u226,u227,u228,u229,u230,u231,u232,u233,u234,u235,u236,u237,u238,u239,u240,u241,u242,u243,u244,u245],[]⟩ w:=by
 conv=>arg 2;whnf
 have HR0:=Lib.hid (Fr.refl [] w)
 cases kn with
 | false =>
  have HBF:Hid (rowBad lj rest k (labs fs)=false):=Lib.hid (by rw[HBD.out];rfl)
  go_wp2_with fail
  exact hQ _ _ _ _ _ _ _ _ _ _ _ _ _ _ _ _ _ _ _ _ _ _ (false) _ (Lib.hid (fun _=>HBF.out)) (HR0)
 | true =>
 by_cases e1:kd=3
 ·have e1a:(kd==3)=true:=by simp[e1]
  have e1b:(kd != 3)=false:=by simp[e1]
  have E1:=Lib.hid e1
  clear e1
  by_cases e2:pr'=k
  ·have e2a:(pr'==k)=true:=by simp[e2]
   have e2b:(pr' != k)=false:=by simp[e2]
   have E2:=Lib.hid e2
   clear e2
   have cA:=Lib.hid (alike_any (Fr.refl [] w) G18.out HFS8.out (by have:=G3.out;omega))
   go_wp2_with fail
   refine cA.out.mono ?_
   rintro e w6 ⟨ba,rfl,hba,f6⟩
   have F6:=Lib.hid f6
   have HBA:=Lib.hid hba
   clear f6 hba cA
   cases ba with
   | true =>
    have HBF:Hid (rowBad lj rest k (labs fs)=false):=Lib.hid (by
     rw[HBD.out,E1.out,E2.out,HBA.out rfl];simp)
    go_wp2_with fail
    exact hQ _ _ _ _ _ _ _ _ _ _ _ _ _ _ _ _ _ _ _ _ _ _ (false) _ (Lib.hid (fun _=>HBF.out)) (F6)
   | false =>
    go_wp2_with fail
    exact hQ _ _ _ _ _ _ _ _ _ _ _ _ _ _ _ _ _ _ _ _ _ _ (true) _ (Lib.hid (fun c=>by cases c)) (F6)
  ·have e2a:(pr'==k)=false:=beq_eq_false_iff_ne.2 e2
   have e2b:(pr' != k)=true:=by simp[e2]
   clear e2
   go_wp2_with fail
   exact hQ _ _ _ _ _ _ _ _ _ _ _ _ _ _ _ _ _ _ _ _ _ _ (true) _ (Lib.hid (fun c=>by cases c)) (HR0)
 ·have e1a:(kd==3)=false:=beq_eq_false_iff_ne.2 e1
  have e1b:(kd != 3)=true:=by simp[e1]
  clear e1
  go_wp2_with fail
  exact hQ _ _ _ _ _ _ _ _ _ _ _ _ _ _ _ _ _ _ _ _ _ _ (true) _ (Lib.hid (fun c=>by cases c)) (HR0)
end
section
variable [LoB]
attribute [local instance] Ex.no
theorem r37{Lb T Mb dn dx:Nat}{rest v' kd pr' r':Int}{kn:Bool}{Bx:Option Addr}{w:World}(c0:w.cell? ⟨Lb,0,none⟩=some (.map (some Mb)))(l4:w.cell? ⟨T,4,none⟩=some (.int .i64 rest))(hLb:Lb<w.heap.size)(hgs1:T<w.heap.size)
  (hlook:∀ w':World,Fr [] w w'→(Instr.lookup 74 (.map (some Mb)) (.int .i64 rest) true).run Tryz.prog w' = .ok (.tuple #[.agg #[.int .i64 v',.int .i64 kd,.int .i64 0,.int .i64 0,.slice none 0 0,.slice none 0 0,.int .i64 0,.int .i64 pr',.int .i64 0,.slice Bx dn dx,.int .i64 r'],.bool kn]) w') {Q:Exit→Act→World→Prop} {u1 u2 u4 u5 u6 u7 u8 u9 u10 u11 u12 u13 u14 u15 u16 u17 u18 u19 u20 u21 u22 u23 u24 u25 u26 u27 u28 u29 u30 u31 u32 u33 u34 u35 u36 u37 u38 u39 u40 u41 u42 u43 u44 u45 u46 u47 u48 u49 u50 u51 u52 u53 u54 u55 u56 u57 u58 u59 u60 u61 u62 u63 u64 u65 u66 u67 u68 u69 u70 u71 u72 u73 u74 u75 u76 u77 u78 u79 u80 u81 u82 u83 u84 u85 u86 u87 u88 u89 u90 u91 u92 u93 u94 u95 u96 u97 u98 u99 u100 u101 u102 u103 u104 u105 u106 u107 u108 u109 u110 u111 u112 u113 u114 u115 u116 u117 u118 u119 u120 u121 u122 u123 u124 u125 u126 u127 u128 u129 u130 u131 u132 u133 u134 u135 u136 u137 u138 u139 u140 u141 u142 u143 u144 u145 u146 u147 u148 u149 u150 u151 u152 u153 u154 u155 u156 u157 u158 u159 u160 u161 u162 u163 u164 u165 u166 u167 u168 u169 u170 u171 u172 u173 u174 u175 u176 u177 u178 u179 u180 u181 u182 u183 u184 u185 u186 u187 u188 u189 u190 u191 u192 u193 u194 u195 u196 u197 u198 u199 u200 u201 u202 u203 u204 u205 u206 u207 u208 u209 u210 u211 u212 u213 u214 u215 u216 u217 u218 u219 u220 u221 u222 u223 u224 u225 u226 u227 u228 u229 u230 u231 u232 u233 u234 u235 u236 u237 u238 u239 u240 u241 u242 u243 u244 u245:Value}
  (hQ:∀ (v194 v195 v196 v197 v198 v199 v200 v201 v202 v203 v204:Value),Q .normal ⟨#[.pointer (some ⟨Lb,0,none⟩),u1,u2,.pointer (some ⟨T,0,none⟩),u4,u5,u6,u7,.pointer (some ⟨w.heap.size,0,none⟩),.bool kn,u10,u11,u12,u13,u14,u15,u16,u17,u18,u19,u20,u21,u22,u23,u24,u25,u26,u27,u28,u29,u30,u31,u32,u33,u34,u35,u36,u37,u38,u39,u40,u41,u42,u43,u44,u45,u46,u47,u48,u49,u50,u51,u52,u53,u54,u55,u56,u57,u58,u59,u60,u61,u62,u63,u64,u65,u66,u67,u68,u69,u70,u71,u72,u73,u74,u75,u76,u77,u78,u79,u80,u81,u82,u83,u84,u85,u86,u87,u88,u89,u90,u91,u92,u93,u94,u95,u96,u97,u98,u99,u100,u101,u102,u103,u104,u105,u106,u107,u108,u109,u110,u111,u112,u113,u114,u115,u116,u117,u118,u119,u120,u121,u122,u123,u124,u125,u126,u127,u128,u129,u130,u131,u132,u133,u134,u135,u136,u137,u138,u139,u140,u141,u142,u143,u144,u145,u146,u147,u148,u149,u150,u151,u152,u153,u154,u155,u156,u157,u158,u159,u160,u161,u162,u163,u164,u165,u166,u167,u168,u169,u170,u171,u172,u173,u174,u175,u176,u177,u178,u179,u180,u181,u182,u183,u184,u185,u186,u187,u188,u189,u190,u191,u192,u193,v194,v195,v196,v197,v198,v199,v200,v201,v202,v203,v204,u205,u206,u207,u208,u209,u210,u211,u212,u213,u214,u215,u216,u217,u218,u219,u220,u221,u222,u223,u224,u225,u226,u227,u228,u229,u230,u231,u232,u233,u234,u235,u236,u237,u238,u239,u240,u241,u242,u243,u244,u245],[]⟩ (w.alloc (.cells #[.int .i64 v',.int .i64 kd,.int .i64 0,.int .i64 0,.slice none 0 0,.slice none 0 0,.int .i64 0,.int .i64 pr',.int .i64 0,.slice Bx dn dx,.int .i64 r'] 88)).drew):Code.wp Tryz.prog (rg 37) Q ⟨#[.pointer (some ⟨Lb,0,none⟩),u1,u2,.pointer (some ⟨T,0,none⟩),u4,u5,u6,u7,u8,u9,u10,u11,u12,u13,u14,u15,u16,u17,u18,u19,u20,u21,u22,u23,u24,u25,u26,u27,u28,u29,u30,u31,u32,u33,u34,u35,u36,u37,u38,u39,u40,u41,u42,u43,u44,u45,u46,u47,u48,u49,u50,u51,u52,u53,u54,u55,u56,u57,u58,u59,u60,u61,u62,u63,u64,u65,u66,u67,u68,u69,u70,u71,u72,u73,u74,u75,u76,u77,u78,u79,u80,u81,u82,u83,u84,u85,u86,u87,u88,u89,u90,u91,u92,u93,u94,u95,u96,u97,u98,u99,u100,u101,u102,u103,u104,u105,u106,u107,u108,u109,u110,u111,u112,u113,u114,u115,u116,u117,u118,u119,u120,u121,u122,u123,u124,u125,u126,u127,u128,u129,u130,u131,u132,u133,u134,u135,u136,u137,u138,u139,u140,u141,u142,u143,u144,u145,u146,u147,u148,u149,u150,u151,u152,u153,u154,u155,u156,u157,u158,u159,u160,u161,u162,u163,u164,u165,u166,u167,u168,u169,u170,u171,u172,u173,u174,u175,u176,u177,u178,u179,u180,u181,u182,u183,u184,u185,u186,u187,u188,u189,u190,u191,u192,u193,u194,u195,u196,u197,u198,u199,u200,u201,u202,u203,u204,u205,u206,u207,u208,u209,u210,u211,u212,u213,u214,u215,u216,u217,u218,u219,u220,u221,u222,u223,u224,u225,u226,u227,u228,u229,u230,u231,u232,u233,u234,u235,u236,u237,u238,u239,u240,u241,u242,u243,u244,u245],[]⟩ w:=by
 conv=>arg 2;whnf
 have fd0:=(Fr.refl [] w).drew
 have fd1:=((Fr.refl [] w).alloc (.cells #[.int .i64 0,.int .i64 0,.int .i64 0,.int .i64 0,.slice none 0 0,.slice none 0 0,.int .i64 0,.int .i64 0,.int .i64 0,.slice none 0 0,.int .i64 0] 88)).drew
 have z0:=hlook _ fd0
 have z1:=hlook _ fd1
 have l4d:=kcJ fd0 l4 hgs1
 have c0d:=kcJ fd0 c0 hLb
 have HQ:=Lib.hid hQ
 clear hlook hQ
 go_region_held3 (fun w'=>w'.cell? ⟨T,4,none⟩=some (.int .i64 rest)∧w'.cell? ⟨Lb,0,none⟩=some (.map (some Mb))) (first|go_keep|exact⟨l4d,c0d⟩) (fail)
 all_goals
  go_wp2_with fail
  exact HQ.out _ _ _ _ _ _ _ _ _ _ _
theorem r40{Mb:Nat}{w9:World}{Lb T c d:Nat}{A B:Option Addr}{k v rest:Int}{args:List TyT}{fs:List Fd}{w:World}(l0:w.cell? ⟨T,0,none⟩=some (.int .i64 k))(l1:w.cell? ⟨T,1,none⟩=some (.int .i64 v))(l2:w.cell? ⟨T,2,none⟩=some (.slice A args.length c))(l3:w.cell? ⟨T,3,none⟩=some (.slice B fs.length d))(l4:w.cell? ⟨T,4,none⟩=some (.int .i64 rest))(hgs1:T<w.heap.size)(c0:w.cell? ⟨Lb,0,none⟩=some (.map (some Mb)))(hLb:Lb<w.heap.size)
  (hput:(Instr.mapUpdate 74 (.map (some Mb)) (.int .i64 rest) (.agg #[.int .i64 rest,.int .i64 3,.int .i64 0,.int .i64 0,.slice none 0 0,.slice none 0 0,.int .i64 0,.int .i64 k,.int .i64 0,.slice B fs.length d,.int .i64 rest])).run Tryz.prog w.drew = .ok () w9) {Q:Exit→Act→World→Prop} {u1 u2 u4 u5 u6 u7 u8 u9 u10 u11 u12 u13 u14 u15 u16 u17 u18 u19 u20 u21 u22 u23 u24 u25 u26 u27 u28 u29 u30 u31 u32 u33 u34 u35 u36 u37 u38 u39 u40 u41 u42 u43 u44 u45 u46 u47 u48 u49 u50 u51 u52 u53 u54 u55 u56 u57 u58 u59 u60 u61 u62 u63 u64 u65 u66 u67 u68 u69 u70 u71 u72 u73 u74 u75 u76 u77 u78 u79 u80 u81 u82 u83 u84 u85 u86 u87 u88 u89 u90 u91 u92 u93 u94 u95 u96 u97 u98 u99 u100 u101 u102 u103 u104 u105 u106 u107 u108 u109 u110 u111 u112 u113 u114 u115 u116 u117 u118 u119 u120 u121 u122 u123 u124 u125 u126 u127 u128 u129 u130 u131 u132 u133 u134 u135 u136 u137 u138 u139 u140 u141 u142 u143 u144 u145 u146 u147 u148 u149 u150 u151 u152 u153 u154 u155 u156 u157 u158 u159 u160 u161 u162 u163 u164 u165 u166 u167 u168 u169 u170 u171 u172 u173 u174 u175 u176 u177 u178 u179 u180 u181 u182 u183 u184 u185 u186 u187 u188 u189 u190 u191 u192 u193 u194 u195 u196 u197 u198 u199 u200 u201 u202 u203 u204 u205 u206 u207 u208 u209 u210 u211 u212 u213 u214 u215 u216 u217 u218 u219 u220 u221 u222 u223 u224 u225 u226 u227 u228 u229 u230 u231 u232 u233 u234 u235 u236 u237 u238 u239 u240 u241 u242 u243 u244 u245:Value}
  (hQ:∀ (v231 v232 v233 v234 v235 v236 v237 v238 v239 v240 v241 v242 v243 v244 v245:Value),Q .normal ⟨#[.pointer (some ⟨Lb,0,none⟩),u1,u2,.pointer (some ⟨T,0,none⟩),u4,u5,u6,u7,u8,u9,u10,u11,u12,u13,u14,u15,u16,u17,u18,u19,u20,u21,u22,u23,u24,u25,u26,u27,u28,u29,u30,u31,u32,u33,u34,u35,u36,u37,u38,u39,u40,u41,u42,u43,u44,u45,u46,u47,u48,u49,u50,u51,u52,u53,u54,u55,u56,u57,u58,u59,u60,u61,u62,u63,u64,u65,u66,u67,u68,u69,u70,u71,u72,u73,u74,u75,u76,u77,u78,u79,u80,u81,u82,u83,u84,u85,u86,u87,u88,u89,u90,u91,u92,u93,u94,u95,u96,u97,u98,u99,u100,u101,u102,u103,u104,u105,u106,u107,u108,u109,u110,u111,u112,u113,u114,u115,u116,u117,u118,u119,u120,u121,u122,u123,u124,u125,u126,u127,u128,u129,u130,u131,u132,u133,u134,u135,u136,u137,u138,u139,u140,u141,u142,u143,u144,u145,u146,u147,u148,u149,u150,u151,u152,u153,u154,u155,u156,u157,u158,u159,u160,u161,u162,u163,u164,u165,u166,u167,u168,u169,u170,u171,u172,u173,u174,u175,u176,u177,u178,u179,u180,u181,u182,u183,u184,u185,u186,u187,u188,u189,u190,u191,u192,u193,u194,u195,u196,u197,u198,u199,u200,u201,u202,u203,u204,u205,u206,u207,u208,u209,u210,u211,u212,u213,u214,u215,u216,u217,u218,u219,u220,u221,u222,u223,u224,u225,u226,u227,u228,u229,u230,v231,v232,v233,v234,v235,v236,v237,v238,v239,v240,v241,v242,v243,v244,v245],[]⟩ w9):Code.wp Tryz.prog (rg 40) Q ⟨#[.pointer (some ⟨Lb,0,none⟩),u1,u2,.pointer (some ⟨T,0,none⟩),u4,u5,u6,u7,u8,u9,u10,u11,u12,u13,u14,u15,u16,u17,u18,u19,u20,u21,u22,u23,u24,u25,u26,u27,u28,u29,u30,u31,u32,u33,u34,u35,u36,u37,u38,u39,u40,u41,u42,u43,u44,u45,u46,u47,u48,u49,u50,u51,u52,u53,u54,u55,u56,u57,u58,u59,u60,u61,u62,u63,u64,u65,u66,u67,u68,u69,u70,u71,u72,u73,u74,u75,u76,u77,u78,u79,u80,u81,u82,u83,u84,u85,u86,u87,u88,u89,u90,u91,u92,u93,u94,u95,u96,u97,u98,u99,u100,u101,u102,u103,u104,u105,u106,u107,u108,u109,u110,u111,u112,u113,u114,u115,u116,u117,u118,u119,u120,u121,u122,u123,u124,u125,u126,u127,u128,u129,u130,u131,u132,u133,u134,u135,u136,u137,u138,u139,u140,u141,u142,u143,u144,u145,u146,u147,u148,u149,u150,u151,u152,u153,u154,u155,u156,u157,u158,u159,u160,u161,u162,u163,u164,u165,u166,u167,u168,u169,u170,u171,u172,u173,u174,u175,u176,u177,u178,u179,u180,u181,u182,u183,u184,u185,u186,u187,u188,u189,u190,u191,u192,u193,u194,u195,u196,u197,u198,u199,u200,u201,u202,u203,u204,u205,u206,u207,u208,u209,u210,u211,u212,u213,u214,u215,u216,u217,u218,u219,u220,u221,u222,u223,u224,u225,u226,u227,u228,u229,u230,u231,u232,u233,u234,u235,u236,u237,u238,u239,u240,u241,u242,u243,u244,u245],[]⟩ w:=by
 conv=>arg 2;whnf
 have HQ:=Lib.hid hQ
 clear hQ
 refine wp_region_still_tail 15 (by kernel_rfl) (by kernel_rfl) ?_
 simp only[List.take_succ_cons,List.take_zero,List.drop_succ_cons,List.drop_zero]
 change wpStill _ _ w.drew _ _ _
 refine st_of ?_
 refine st_run (v:=.pointer (some ⟨Lb,0,none⟩)) (by kernel_rfl) (by kernel_rfl) (fun K hK=>?_)
 simp only[Act.put,List.setIfInBounds_toArray,List.set_cons_succ,List.set_cons_zero]
 refine hK _ ?_
 clear hK K
 refine st_run (v:=.pointer (some ⟨Lb,0,none⟩)) (by kernel_rfl) (by kernel_rfl) (fun K hK=>?_)
 simp only[Act.put,List.setIfInBounds_toArray,List.set_cons_succ,List.set_cons_zero]
 refine hK _ ?_
 clear hK K
 refine st_run (v:=.pointer (some ⟨Lb,0,none⟩)) (by kernel_rfl) (by kernel_rfl) (fun K hK=>?_)
 simp only[Act.put,List.setIfInBounds_toArray,List.set_cons_succ,List.set_cons_zero]
 refine hK _ ?_
 clear hK K
 refine st_run (v:=.map (some Mb)) (by kernel_rfl) (by go_simp) (fun K hK=>?_)
 simp only[Act.put,List.setIfInBounds_toArray,List.set_cons_succ,List.set_cons_zero]
 refine hK _ ?_
 clear hK K
 refine st_run (v:=.pointer (some ⟨T,3,none⟩)) (by kernel_rfl) (by kernel_rfl) (fun K hK=>?_)
 simp only[Act.put,List.setIfInBounds_toArray,List.set_cons_succ,List.set_cons_zero]
 refine hK _ ?_
 clear hK K
 refine st_run (v:=.pointer (some ⟨T,4,none⟩)) (by kernel_rfl) (by kernel_rfl) (fun K hK=>?_)
 simp only[Act.put,List.setIfInBounds_toArray,List.set_cons_succ,List.set_cons_zero]
 refine hK _ ?_
 clear hK K
 refine st_run (v:=.int .i64 rest) (by kernel_rfl) (by go_simp) (fun K hK=>?_)
 simp only[Act.put,List.setIfInBounds_toArray,List.set_cons_succ,List.set_cons_zero]
 refine hK _ ?_
 clear hK K
 refine st_run (v:=.pointer (some ⟨T,3,none⟩)) (by kernel_rfl) (by kernel_rfl) (fun K hK=>?_)
 simp only[Act.put,List.setIfInBounds_toArray,List.set_cons_succ,List.set_cons_zero]
 refine hK _ ?_
 clear hK K
 refine st_run (v:=.pointer (some ⟨T,4,none⟩)) (by kernel_rfl) (by kernel_rfl) (fun K hK=>?_)
 simp only[Act.put,List.setIfInBounds_toArray,List.set_cons_succ,List.set_cons_zero]
 refine hK _ ?_
 clear hK K
 refine st_run (v:=.int .i64 rest) (by kernel_rfl) (by go_simp) (fun K hK=>?_)
 simp only[Act.put,List.setIfInBounds_toArray,List.set_cons_succ,List.set_cons_zero]
 refine hK _ ?_
 clear hK K
 refine st_run (v:=.pointer (some ⟨T,0,none⟩)) (by kernel_rfl) (by kernel_rfl) (fun K hK=>?_)
 simp only[Act.put,List.setIfInBounds_toArray,List.set_cons_succ,List.set_cons_zero]
 refine hK _ ?_
 clear hK K
 refine st_run (v:=.int .i64 k) (by kernel_rfl) (by go_simp) (fun K hK=>?_)
 simp only[Act.put,List.setIfInBounds_toArray,List.set_cons_succ,List.set_cons_zero]
 refine hK _ ?_
 clear hK K
 refine st_run (v:=.pointer (some ⟨T,3,none⟩)) (by kernel_rfl) (by kernel_rfl) (fun K hK=>?_)
 simp only[Act.put,List.setIfInBounds_toArray,List.set_cons_succ,List.set_cons_zero]
 refine hK _ ?_
 clear hK K
 refine st_run (v:=.agg #[.slice B fs.length d,.int .i64 rest]) (by kernel_rfl) (by go_simp) (fun K hK=>?_)
 simp only[Act.put,List.setIfInBounds_toArray,List.set_cons_succ,List.set_cons_zero]
 refine hK _ ?_
 clear hK K
 refine st_run (v:=.agg #[.int .i64 rest,.int .i64 3,.int .i64 0,.int .i64 0,.slice none 0 0,.slice none 0 0,.int .i64 0,.int .i64 k,.int .i64 0,.slice B fs.length d,.int .i64 rest]) (by kernel_rfl) (by go_simp) (fun K hK=>?_)
 simp only[Act.put,List.setIfInBounds_toArray,List.set_cons_succ,List.set_cons_zero]
 refine hK _ ?_
 clear hK K
 refine st_nil ?_
 go_wp2_with fail
 exact HQ.out _ _ _ _ _ _ _ _ _ _ _ _ _ _ _
end
section
variable [LoB]
attribute [local instance] Ex.no
structure SeenD (k v rest:Int)(args:List TyT)(fs:List Fd)(l m1 m2 lj:List (Int×Fct))(b2 bj:Bool)(want:Int):Prop where
 ck:(k=1∧nameBad l v 1=false∧m1=nameL l v 1∧want=0)∨(k≠1∧m1=l∧∃ n:Nat,argN k=some n∧want=n)
 w0:(args.length:Int)=want
 kv:k=1∨v=0
 rr:rwd k=true∨(fs.length=0∧rest=0)
 r0:0≤rest
 cm:b2=false→FctsOk l→MayTs m1 m2 args
 ce:args=[]→m2=m1∧b2=false
 mf:bj=false→b2=false∧(FctsOk l→MayFs m2 lj fs∧Ri (labs fs)∧∀ f ∈ fs,f.lb≠[]∧(f.pr=0→rest≠0))
 ef:fs=[]→lj=m2∧bj=b2
theorem argN_rwd{k:Int}{n:Nat}(h:rwd k=true)(hn:argN k=some n):n=0:=by
 unfold rwd at h
 unfold argN at hn
 rw[if_pos (by simp at h;omega)] at hn
 exact(Option.some.inj hn).symm
theorem SeenD.fin0{k v:Int}{args:List TyT}{fs:List Fd}{l m1 m2 lj:List (Int×Fct)}{b2 bj:Bool}{want:Int}(h:SeenD k v 0 args fs l m1 m2 lj b2 bj want)(hb:bj=false)(hl:FctsOk l):MayT l lj (.mk k v args fs 0):=by
 obtain⟨hb2,hmf⟩:=h.mf hb
 obtain⟨f1,f2,f3⟩:=hmf hl
 have h2:=h.cm hb2 hl
 rcases h.ck with⟨rfl,n1,n2,n3⟩| ⟨n1,n2,n,n3,n4⟩
 ·have ha:args=[]:=List.length_eq_zero_iff.1 (by have:=h.w0;omega)
  have hf:fs=[]:=by
   rcases h.rr with c|⟨c,_⟩
   ·exact absurd c (by decide)
   ·exact List.length_eq_zero_iff.1 c
  have e1:=(h.ce ha).1
  have e2:=(h.ef hf).1
  subst ha;subst hf
  rw[e2,e1,n2]
  exact .var hl n1
 ·have hv:v=0:=h.kv.resolve_left n1
  subst hv
  by_cases hr:rwd k=true
  ·have:=argN_rwd hr n3
   have ha:args=[]:=List.length_eq_zero_iff.1 (by have:=h.w0;omega)
   have e1:=(h.ce ha).1
   subst ha
   rw[e1,n2] at f1
   exact .row0 hr f1 f2 (fun f hf=>⟨(f3 f hf).1,fun c=>(f3 f hf).2 c rfl⟩)
  ·have hf:fs=[]:=by
    rcases h.rr with c|⟨c,_⟩
    ·exact absurd c hr
    ·exact List.length_eq_zero_iff.1 c
   have e2:=(h.ef hf).1
   subst hf
   rw[e2]
   rw[n2] at h2
   exact .pln n1 (by rw[n3];congr 1;have:=h.w0;omega) hr h2
theorem SeenD.fin1{k v rest:Int}{args:List TyT}{fs:List Fd}{l m1 m2 lj:List (Int×Fct)}{b2 bj:Bool}{want:Int}(h:SeenD k v rest args fs l m1 m2 lj b2 bj want)(hr:rest≠0)(hb:bj=false)(hl:FctsOk l)(hbad:rowBad lj rest k (labs fs)=false):MayT l ((rest,⟨3,k,labs fs⟩)::lj) (.mk k v args fs rest):=by
 obtain⟨hb2,hmf⟩:=h.mf hb
 obtain⟨f1,f2,f3⟩:=hmf hl
 have hk:rwd k=true:=h.rr.resolve_right (fun c=>hr c.2)
 have hk1:k≠1:=by rintro rfl;exact absurd hk (by decide)
 have hv:v=0:=h.kv.resolve_left hk1
 subst hv
 obtain⟨_,n2,n,n3,n4⟩:=h.ck.resolve_left (fun c=>hk1 c.1)
 have:=argN_rwd hk n3
 have ha:args=[]:=List.length_eq_zero_iff.1 (by have:=h.w0;omega)
 have e1:=(h.ce ha).1
 subst ha
 rw[e1,n2] at f1
 exact .row1 hk f1 f2 (fun f hf=>(f3 f hf).1) (by have:=h.r0;omega) hbad
theorem ri_snoc{fs:List Fd}{i:Nat}{f:Fd}(h:Ri (labs (fs.take i)))(hx:fs[i]?=some f)(hp:∀ p,0<i→fs[i-1]?=some p→ltB p.lb f.lb=true):Ri (labs (fs.take i++[f])):=by
 rw[labs_app]
 refine List.pairwise_append.2 ⟨h,by simp[labs],fun a ha b hb=>?_⟩
 simp[labs] at hb
 subst hb
 obtain⟨g,hg,rfl⟩:=labs_mem.1 ha
 by_cases h0:i=0
 ·subst h0;simp at hg
 ·have hi:i≤fs.length:=by have:=(List.getElem?_eq_some_iff.1 hx).1;omega
  have hl:(fs.take i).length=i:=by rw[List.length_take];omega
  have hpv:fs[i-1]?=some fs[i-1]:=List.getElem?_eq_getElem (by omega)
  have h2:=hp _ (by omega) hpv
  have h3:fs.take i=fs.take (i-1)++[fs[i-1]]:=by
   conv=>lhs;rw[show i=i-1+1 by omega]
   rw[List.take_add_one,hpv];rfl
  rw[h3] at hg h
  rcases List.mem_append.1 hg with c|c
  ·rw[labs_app] at h
   exact ltB_trans ((List.pairwise_append.1 h).2.2 g.lb (labs_mem.2 ⟨g,c,rfl⟩) _ (by simp[labs])) h2
  ·simp at c;rw[c];exact h2
structure MayD (W w':World)(base:Nat)(P:List UInt8→Prop)(Lb Mb:Nat)(l:List (Int×Fct))(b:Bool)(t:TyT):Prop where
 ex:∃ l' b',LookAt w' base P Lb Mb l' b'∧(b=true→b'=true)∧(b'=false→FctsOk l→MayT l l' t)∧Fr [Lb,Mb] W w'
def MYC(N:Nat):Prop:=∀ (w W:World)(base:Nat)(P:List UInt8→Prop)(t:TyT)(A B:Option Addr)(c d Lb Mb:Nat)(l:List (Int×Fct))(b:Bool),rzT t<N→Below base w W→base≤w.heap.size→szT t≤1073741824 →
  TyAt w (· < base) P t [.int .i64 t.k,.int .i64 t.v,.slice A t.args.length c,.slice B t.fs.length d,.int .i64 t.rest]→LookAt W base P Lb Mb l b →
  Calls Tryz.prog 42 #[.pointer (some ⟨Lb,0,none⟩),.agg #[.int .i64 t.k,.int .i64 t.v,.slice A t.args.length c,.slice B t.fs.length d,.int .i64 t.rest]] W fun e w'=>e = .returned (.tuple #[])∧MayD W w' base P Lb Mb l b t
theorem rmay_step(N:Nat)(ih:MYC N):MYC (N+1):=by
 intro w W base P t A B c d Lb Mb l b hN hW hb hsz ht hL
 obtain⟨k,v,args,fs,rest⟩:=t
 rw[rzT] at hN
 rw[szT] at hsz
 simp only[TyT.k,TyT.v,TyT.args,TyT.fs,TyT.rest] at ht ⊢
 obtain⟨v2,v3,he,har,hfs⟩:=TyAt.iff.1 ht
 cases he
 have hal:args.length≤1073741824:=by have:=szTs_len args;omega
 have hfl:fs.length≤1073741824:=by have:=szFs_len fs;omega
 have HAR:=Lib.hid har
 have HFS:=Lib.hid hfs
 have IH:=Lib.hid ih
 have HN:=Lib.hid hN
 have HSZ:=Lib.hid hsz
 have hLm:=hL.lt
 have f0:=(Fr.refl [] W).alloc (.cells #[.int .i64 k,.int .i64 v,.slice A args.length c,.slice B fs.length d,.int .i64 rest] 27)
 have g0:=heap_new W (.cells #[.int .i64 k,.int .i64 v,.slice A args.length c,.slice B fs.length d,.int .i64 rest] 27)
 obtain⟨⟨l0,l1,l2,l3,l4⟩,_⟩:=cells5 g0
 have hgs:=lt_of_heap g0
 have hz:=World.size_alloc W (.cells #[.int .i64 k,.int .i64 v,.slice A args.length c,.slice B fs.length d,.int .i64 rest] 27)
 have HF0:=Lib.hid f0
 have HG0:=Lib.hid g0
 have HL0:=Lib.hid (hL.fr0 f0)
 obtain⟨c0,c1,z1⟩:=HL0.out.cells
 have hlo:=hL.lo
 have HB0:=Lib.hid hW
 have hbW:base≤W.heap.size:=by omega
 have HW:=Lib.hid (hW.trans (f0.below (by omega) (fun x hx=>by cases hx)))
 clear ih har hfs hN hsz hW ht hL f0 g0
 generalize hT:W.heap.size=T at *
 go_enter Tryz.func42,Tryz.ntmps42
 go_upto_block 0 with fail
 have hTL:T≠Lb∧T≠Mb:=by omega
 refine rsw HL0 HF0 HG0 hTL ?rest4
 case rest4 =>
  intro v12 v13 v14 v15 v16 v17 v18 v19 v20 v21 v22 v23 v24 v25 v26 v27 v28 v29 v30 v31 v32 v33 want m1 b1 wc HL1 HB1 HK1 HF1 HG1
  dsimp only
  clear HG0 HF0 HL0 l0 l1 l2 l3 l4 c0 c1 z1
  obtain⟨⟨l0,l1,l2,l3,l4⟩,_⟩:=cells5 HG1.out
  have hgs1:=lt_of_heap HG1.out
  obtain⟨c0,c1,z1⟩:=HL1.out.cells
  have hLlt:=HL1.out.lt
  go_upto_region 18 with(fail)
  refine r18 l0 l1 l2 l3 l4 hgs1 ?rest72
  case rest72 =>
   intro v34 v35 v36 v37 v38 v39 v40 v41 v42 v43 v44 v45 v46 v47 v48 v49 v50 v51 v52 v53 v54 v55 v56 v57 v58 v59 v60 v61 v62 v63 v64 v65 v66 v67 v68 v69 v70 v71 bb w2 HFA HR
   dsimp only
   have hG2:=HR.out.keep HG1.out (fun x=>by cases x)
   have HG2:=Lib.hid hG2
   have HL2:=Lib.hid (HL1.out.fr0 HR.out)
   have HF2:=Lib.hid (HF1.out.trans0 HR.out)
   clear HG1 HL1 HF1 l0 l1 l2 l3 l4 hgs1 c0 c1 z1 hLlt hG2 HR
   obtain⟨⟨l0,l1,l2,l3,l4⟩,_⟩:=cells5 HG2.out
   have hgs1:=lt_of_heap HG2.out
   obtain⟨c0,c1,z1⟩:=HL2.out.cells
   have hLlt:=HL2.out.lt
   cases bb with
   | true =>
    have HLT:=Lib.hid (HL2.out.bad true)
    have HFT:=Lib.hid (HF2.out.trans ((LookAt.setBad_fr _ Lb true).mono (L':=[Lb,Mb]) (fun x hx => .inl (by simp at hx;simp[hx]))))
    go_wp2_with fail
    refine bodyPost_ret (results_none rfl _ _ _) rfl ?_
    exact⟨rfl,⟨m1,true,HLT.out,fun _=>rfl,fun c=>(by cases c),HFT.out⟩⟩
   | false =>
    cases b1 with
    | true =>
     go_wp2_with fail
     refine bodyPost_ret (results_none rfl _ _ _) rfl ?_
     exact⟨rfl,⟨m1,true,HL2.out,fun _=>rfl,fun c=>(by cases c),HF2.out⟩⟩
    | false =>
     have hbf:b=false:=by
      cases b with
      | false=>rfl
      | true=>exact absurd (HB1.out rfl) (by decide)
     subst hbf
     obtain⟨hw0,hkv,hrr,hr0⟩:=HFA.out rfl
     have hk1:=HK1.out rfl
     have HKV:=Lib.hid hkv
     have HRR:=Lib.hid hrr
     have HK:=Lib.hid hk1
     have HW0:=Lib.hid hw0
     have HM1:Hid (FctsOk l→FctsOk m1):=Lib.hid (fun hl=>by
      rcases hk1 with⟨_,h2,h3,_⟩| ⟨_,h2,_⟩
      ·rw[h3];exact(name_mst hl h2 (.inl rfl)).1.ok
      ·rw[h2];exact hl)
     clear HFA HK1 HB1 hkv hrr hk1 hw0
     go_wp2_with fail
     go_loopw [5] (fun iv wr=>∃ (i:Nat) (li:List (Int×Fct)) (bi:Bool),iv = .int .i64 i∧i≤args.length∧Hid (LookAt wr base P Lb Mb li bi)∧Hid (bi=false→FctsOk l→MayTs m1 li (args.take i))∧Hid (args=[]→li=m1∧bi=false)∧Hid (Fr [Lb,Mb] W wr)∧Hid (wr.heap[T]?=some (.cells #[.int .i64 k,.int .i64 v,.slice A args.length c,.slice B fs.length d,.int .i64 rest] 27 (0,0)))) (fun iv wr=>args.length-(intOf iv).toNat)
     case atStart=>exact⟨0,m1,false,rfl,by omega,HL2,Lib.hid (fun _ hl=>by rw[List.take_zero];exact .nil (HM1.out hl)),Lib.hid (fun _=>⟨rfl,rfl⟩),HF2,HG2⟩
     case round =>
      obtain⟨i,li,bi,rfl,hi,HL,HM,HE,HF,HG⟩:=hrel
      clear HL2 HF2 HG2 l0 l1 l2 l3 l4 hgs1 c0 c1 z1 hLlt
      obtain⟨⟨l0,l1,l2,l3,l4⟩,_⟩:=cells5 HG.out
      have hgs1:=lt_of_heap HG.out
      have q1:(0:Int)≤(i:Int):=by omega
      by_cases hlt:i<args.length
      ·have hx:args[i]?=some args[i]:=List.getElem?_eq_getElem hlt
       generalize args[i]=z at hx
       have q2:(i:Int)<(args.length:Int):=by omega
       have hBW:Below base w wr:=HB0.out.trans (HF.out.below (by rw[hT];omega) (fun x hx=>by simp at hx;rcases hx with e|e <;> rw[e];exact hlo.1;exact hlo.2))
       obtain⟨g,og,rfl,hok,hg,B2,d2,D2,e2,hty,x0,x1,x2,x3,x4⟩:=(HAR.out.keep (shB hBW)).at hx
       have hzs:szT z+szTs (args.take i)≤szTs args:=szTs_at hx
       have cS:=Lib.hid (IH.out wr wr base P z B2 D2 d2 e2 Lb Mb li bi (by have:=rzTs_at hx;have:=HN.out;omega) (Below.refl _ _) (by have:=HL.out.lt;omega) (by have:=HSZ.out;omega) hty HL.out)
       have HX:=Lib.hid hx
       clear hx hty hBW hzs
       go_wp2_with fail
       refine cS.out.mono ?_
       rintro e w6 ⟨rfl,⟨lj,bj,hl6,hb6,hm6,f6⟩⟩
       have HL6:=Lib.hid hl6
       have HF6:=Lib.hid (HF.out.trans f6)
       have HG6:=Lib.hid (f6.keep HG.out (by simp;omega))
       have HM6:Hid (bj=false→FctsOk l→MayTs m1 lj (args.take (i+1))):=Lib.hid (fun hj hl=>by
        have hbi:bi=false:=by
         cases bi with
         | false=>rfl
         | true=>rw[hb6 rfl] at hj;cases hj
        have h1:=HM.out hbi hl
        rw[List.take_add_one,HX.out]
        exact h1.app (hm6 hj h1.1.ok))
       have HE6:Hid (args=[]→lj=m1∧bj=false):=Lib.hid (fun e=>by rw[e] at hlt;simp at hlt)
       clear hl6 hb6 hm6 f6 cS x0 x1 x2 x3 x4 l0 l1 l2 l3 l4
       go_wp2_with fail
       go_roundw
       case rel=>exact⟨i+1,lj,bj,by first|rfl|simp|go_num,by omega,HL6,HM6,HE6,HF6,HG6⟩
       case measure=>simp[intOf];omega
      ·have q2:¬ (i:Int)<(args.length:Int):=by omega
       rw[List.take_of_length_le (by omega)] at HM
       clear hlt
       obtain⟨m2,hm2⟩:∃ m2,m2=li:=⟨_,rfl⟩
       obtain⟨b2,hb2⟩:∃ b2,b2=bi:=⟨_,rfl⟩
       rw[← hm2,← hb2] at HL HM HE
       clear hm2 hb2
       go_wp2_with fail
       clear l0 l1 l2 l3 l4 hgs1
       go_loopw [6] (fun iv wr=>∃ (i:Nat) (lj:List (Int×Fct)) (bj:Bool),iv = .int .i64 i∧i≤fs.length∧Hid (LookAt wr base P Lb Mb lj bj)∧Hid (bj=false→b2=false∧(FctsOk l→MayFs m2 lj (fs.take i)∧Ri (labs (fs.take i))∧∀ f ∈ fs.take i,f.lb≠[]∧(f.pr=0→rest≠0)))∧Hid (fs=[]→lj=m2∧bj=b2)∧Hid (Fr [Lb,Mb] W wr)∧Hid (wr.heap[T]?=some (.cells #[.int .i64 k,.int .i64 v,.slice A args.length c,.slice B fs.length d,.int .i64 rest] 27 (0,0)))) (fun iv wr=>fs.length-(intOf iv).toNat)
       case atStart=>exact⟨0,m2,b2,rfl,by omega,HL,Lib.hid (fun h=>⟨h,fun hl=>by rw[List.take_zero];exact⟨.nil (HM.out h hl).1.ok,.nil,fun f hf=>by cases hf⟩⟩),Lib.hid (fun _=>⟨rfl,rfl⟩),HF,HG⟩
       case round =>
        clear HL HF HG
        obtain⟨i,lj,bj,rfl,hi,HL,HMF,HEF,HF,HG⟩:=hrel
        obtain⟨⟨l0,l1,l2,l3,l4⟩,_⟩:=cells5 HG.out
        have hgs1:=lt_of_heap HG.out
        have q1:(0:Int)≤(i:Int):=by omega
        have hbe:∀ x ∈ [Lb,Mb],base≤x:=fun x hx=>by simp at hx;rcases hx with e|e <;> rw[e];exact hlo.1;exact hlo.2
        have HBE:=Lib.hid hbe
        by_cases hlt:i<fs.length
        ·have hx:fs[i]?=some fs[i]:=List.getElem?_eq_getElem hlt
         generalize fs[i]=f at hx
         have q2:(i:Int)<(fs.length:Int):=by omega
         have hBW:Below base w wr:=HB0.out.trans (HF.out.below (by rw[hT];omega) hbe)
         obtain⟨g,og,rfl,hok,hg,Bf,df,Df,ef,hty,x0,x1,x2,x3,x4,x5,x6,x7⟩:=(HFS.out.keep (shB hBW)).at hx
         have hpv:0<i→∃ p,fs[i-1]?=some p∧wr.cell? ⟨g,og+(i-1)* 8,none⟩=some (.string ⟨p.lb.toArray⟩):=fun h0=>by
          have hy:fs[i-1]?=some fs[i-1]:=List.getElem?_eq_getElem (by omega)
          obtain⟨g2,og2,e,_,_,_,_,_,_,_,y0,_⟩:=(HFS.out.keep (shB hBW)).at hy
          cases e
          exact⟨_,hy,y0⟩
         have HPV:=Lib.hid hpv
         have hzs:szF f+szFs (fs.take i)≤szFs fs:=szFs_at hx
         have f7:=(Fr.refl [] wr).alloc (.cells #[.string ⟨f.lb.toArray⟩,.int .i64 f.pr,.int .i64 f.p,.int .i64 f.t.k,.int .i64 f.t.v,.slice Bf f.t.args.length df,.slice Df f.t.fs.length ef,.int .i64 f.t.rest] 44)
         have p7:=heap_new wr (.cells #[.string ⟨f.lb.toArray⟩,.int .i64 f.pr,.int .i64 f.p,.int .i64 f.t.k,.int .i64 f.t.v,.slice Bf f.t.args.length df,.slice Df f.t.fs.length ef,.int .i64 f.t.rest] 44)
         obtain⟨⟨u0,u1,u2,u3,u4,u5,u6,u7⟩,_⟩:=cells8 p7
         have hms:=lt_of_heap p7
         have hgx:=HL.out.lt
         have HTY:=Lib.hid (hty.keep (shB (f7.below (B:=base) (by have:=HL.out.lt;omega) (fun x hx=>by cases hx))))
         have HX:=Lib.hid hx
         have HP7:=Lib.hid p7
         have HL7:=Lib.hid (HL.out.fr0 f7)
         have HF7:=Lib.hid (HF.out.trans0 f7)
         have HG7:=Lib.hid (f7.keep HG.out (fun x=>by cases x))
         have HN8:=Lib.hid (show rzT f.t<N by have:=rzFs_at hx;have:=HN.out;omega)
         have hgw:g<(wr.alloc (.cells #[.string ⟨f.lb.toArray⟩,.int .i64 f.pr,.int .i64 f.p,.int .i64 f.t.k,.int .i64 f.t.v,.slice Bf f.t.args.length df,.slice Df f.t.fs.length ef,.int .i64 f.t.rest] 44)).heap.size:=by rw[World.size_alloc];omega
         have hTw:T<(wr.alloc (.cells #[.string ⟨f.lb.toArray⟩,.int .i64 f.pr,.int .i64 f.p,.int .i64 f.t.k,.int .i64 f.t.v,.slice Bf f.t.args.length df,.slice Df f.t.fs.length ef,.int .i64 f.t.rest] 44)).heap.size:=by rw[World.size_alloc];omega
         have y0:=kcJ f7 x0 hg
         have yT:=kcJ f7 l3 hgs1
         have HF9:=Lib.hid f7
         clear hx hty hBW hpv hbe f7 p7
         go_upto_region 29 with(fail)
         generalize wr.alloc (.cells #[.string ⟨f.lb.toArray⟩,.int .i64 f.pr,.int .i64 f.p,.int .i64 f.t.k,.int .i64 f.t.v,.slice Bf f.t.args.length df,.slice Df f.t.fs.length ef,.int .i64 f.t.rest] 44)=w9 at *
         generalize hF9:wr.heap.size=F9 at *
         have hprev:(i=0∧∀ p,0<i→fs[i-1]?=some p→ltB p.lb f.lb=true)∨(∃ p,0<i∧fs[i-1]?=some p∧w9.cell? ⟨g,og+(i-1)* 8,none⟩=some (.string ⟨p.lb.toArray⟩)):=by
          by_cases hi0:i=0
          ·exact .inl ⟨hi0,fun p h=>by omega⟩
          ·obtain⟨p,e1,e2⟩:=HPV.out (by omega)
           exact .inr ⟨p,by omega,e1,kcJ HF9.out e2 (by rw[hF9];exact hg)⟩
         refine r29 hlt hfl u0 u1 u2 hms yT hTw hgw hprev ?rest147
         case rest147 =>
          clear hprev
          intro v108 v109 v110 v111 v112 v113 v114 v115 v116 v117 v118 v119 v120 v121 v122 v123 v124 v125 v126 v127 v128 v129 v130 v131 v132 v133 v134 v135 v136 v137 v138 v139 v140 v141 v142 v143 v144 v145 v146 bb wc HFA HR
          dsimp only
          clear u0 u1 u2 u3 u4 u5 u6 u7 x0 x1 x2 x3 x4 x5 x6 x7 y0 yT l0 l1 l2 l3 l4 hgs1
          have HL8:=Lib.hid (HL7.out.fr0 HR.out)
          have HF8:=Lib.hid (HF7.out.trans0 HR.out)
          have HG8:=Lib.hid (HR.out.keep HG7.out (fun x=>by cases x))
          have HP8:=Lib.hid (HR.out.keep HP7.out (fun x=>by cases x))
          have HTY8:=Lib.hid (HTY.out.keep (shB (HR.out.below (B:=base) (by have:=HL7.out.lt;omega) (fun x hx=>by cases hx))))
          clear HL7 HF7 HG7 HP7 HTY HR HF9 HPV hms hgw hTw
          obtain⟨w8,hw8⟩:∃ w8,w8=wc:=⟨_,rfl⟩
          subst hw8
          obtain⟨⟨l0,l1,l2,l3,l4⟩,_⟩:=cells5 HG8.out
          have hgs1:=lt_of_heap HG8.out
          obtain⟨⟨u0,u1,u2,u3,u4,u5,u6,u7⟩,_⟩:=cells8 HP8.out
          have hms:=lt_of_heap HP8.out
          obtain⟨c0,c1,z1⟩:=HL8.out.cells
          have hLlt:=HL8.out.lt
          cases bb with
          | true =>
           have HLT:=Lib.hid (HL8.out.bad true)
           have HFT:=Lib.hid (HF8.out.trans ((LookAt.setBad_fr _ Lb true).mono (L':=[Lb,Mb]) (fun x hx => .inl (by simp at hx;simp[hx]))))
           go_wp2_with fail
           refine bodyPost_ret (results_none rfl _ _ _) rfl ?_
           exact⟨rfl,⟨lj,true,HLT.out,fun _=>rfl,fun c=>(by cases c),HFT.out⟩⟩
          | false =>
           obtain⟨hf0,hf1,hf2,hf3⟩:=HFA.out rfl
           have hstep:∀ (bk:Bool) (lk':List (Int×Fct)),(bk=false→bj=false∧(f.pr=0→rest≠0)∧(FctsOk l→MayFs m2 lj (fs.take i)→MayFs m2 lk' (fs.take i++[f])))→bk=false→b2=false∧(FctsOk l→MayFs m2 lk' (fs.take (i+1))∧Ri (labs (fs.take (i+1)))∧∀ f ∈ fs.take (i+1),f.lb≠[]∧(f.pr=0→rest≠0)):=fun bk lk' h hbk=>by
            obtain⟨k1,k2,k3⟩:=h hbk
            obtain⟨k4,k5⟩:=HMF.out k1
            refine⟨k4,fun hl=>?_⟩
            obtain⟨k6,k7,k8⟩:=k5 hl
            rw[List.take_add_one,HX.out]
            refine⟨k3 hl k6,ri_snoc k7 HX.out hf1,fun f' hf'=>?_⟩
            rcases List.mem_append.1 hf' with c|c
            ·exact k8 f' c
            ·simp at c;rw[c];exact⟨hf0,k2⟩
           have HST:=Lib.hid hstep
           have HF3:=Lib.hid hf3
           have HE9:∀ (lk':List (Int×Fct)) (bk:Bool),Hid (fs=[]→lk'=m2∧bk=b2):=fun lk' bk=>Lib.hid (fun e=>by rw[e] at hlt;simp at hlt)
           clear hstep HFA hf0 hf1 hf3
           by_cases h0:f.pr=0
           ·have g0:(f.pr==0)=true:=by simp[h0]
            have HP0:Hid (f.p=0):=Lib.hid (HF3.out (by omega))
            have H0:=Lib.hid h0
            clear h0 hf2
            cases bj with
            | true =>
             have HLT:=Lib.hid (HL8.out.bad true)
             have HFT:=Lib.hid (HF8.out.trans ((LookAt.setBad_fr _ Lb true).mono (L':=[Lb,Mb]) (fun x hx => .inl (by simp at hx;simp[hx]))))
             have HGT:=Lib.hid ((LookAt.setBad_fr _ Lb true).keep HG8.out (by simp;omega))
             go_wp2_with fail
             go_roundw
             case rel=>exact⟨i+1,lj,true,by first|rfl|simp|go_num,by omega,HLT,Lib.hid (fun c=>by cases c),HE9 _ _,HFT,HGT⟩
             case measure=>simp[intOf];omega
            | false =>
             go_wp2_with fail
             refine(blank_any (Fr.refl [] w8) f.t Bf Df df ef).mono ?_
             rintro e w6 ⟨bz,rfl,hbz,f6⟩
             have HL9:=Lib.hid (HL8.out.fr0 f6)
             have HF9:=Lib.hid (HF8.out.trans0 f6)
             have hG9:=f6.keep HG8.out (fun x=>by cases x)
             have HG9:=Lib.hid hG9
             have HBZ:=Lib.hid hbz
             clear u0 u1 u2 u3 u4 u5 u6 u7 l0 l1 l2 l3 l4 hgs1 hms c0 c1 z1 hLlt f6 hbz
             obtain⟨⟨l0,l1,l2,l3,l4⟩,_⟩:=cells5 hG9
             have hgs1:=lt_of_heap hG9
             obtain⟨c0,c1,z1⟩:=HL9.out.cells
             have hLlt:=HL9.out.lt
             clear hG9
             have hres:(bz=false)∨(bz=true∧rest=0)∨(bz=true∧rest≠0):=by
              cases bz
              ·exact .inl rfl
              ·by_cases e:rest=0
               ·exact .inr (.inl ⟨rfl,e⟩)
               ·exact .inr (.inr ⟨rfl,e⟩)
             rcases hres with rfl|⟨rfl,h5⟩| ⟨rfl,h5⟩
             ·have HLT:=Lib.hid (HL9.out.bad true)
              have HFT:=Lib.hid (HF9.out.trans ((LookAt.setBad_fr _ Lb true).mono (L':=[Lb,Mb]) (fun x hx => .inl (by simp at hx;simp[hx]))))
              have HGT:=Lib.hid ((LookAt.setBad_fr _ Lb true).keep HG9.out (by simp;omega))
              go_wp2_with fail
              go_roundw
              case rel=>exact⟨i+1,lj,true,by first|rfl|simp|go_num,by omega,HLT,Lib.hid (fun c=>by cases c),HE9 _ _,HFT,HGT⟩
              case measure=>simp[intOf];omega
             ·have q5:(rest==0)=true:=by simp[h5]
              have HLT:=Lib.hid (HL9.out.bad true)
              have HFT:=Lib.hid (HF9.out.trans ((LookAt.setBad_fr _ Lb true).mono (L':=[Lb,Mb]) (fun x hx => .inl (by simp at hx;simp[hx]))))
              have HGT:=Lib.hid ((LookAt.setBad_fr _ Lb true).keep HG9.out (by simp;omega))
              clear h5
              go_wp2_with fail
              go_roundw
              case rel=>exact⟨i+1,lj,true,by first|rfl|simp|go_num,by omega,HLT,Lib.hid (fun c=>by cases c),HE9 _ _,HFT,HGT⟩
              case measure=>simp[intOf];omega
             ·have q5:(rest==0)=false:=beq_eq_false_iff_ne.2 h5
              have H5:=Lib.hid h5
              have HLT:=Lib.hid (HL9.out.bad false)
              have HFT:=Lib.hid (HF9.out.trans ((LookAt.setBad_fr _ Lb false).mono (L':=[Lb,Mb]) (fun x hx => .inl (by simp at hx;simp[hx]))))
              have HGT:=Lib.hid ((LookAt.setBad_fr _ Lb false).keep HG9.out (by simp;omega))
              have hm9:=HST.out false lj (fun _=>⟨by first|rfl|trivial,fun _=>H5.out,fun hl hm=>hm.f0 H0.out HP0.out (HBZ.out rfl)⟩) (by first|rfl|trivial)
              have HM9:=Lib.hid (fun(_:false=false)=>hm9)
              clear hm9
              clear h5
              go_wp2_with fail
              go_roundw
              case rel=>exact⟨i+1,lj,false,by first|rfl|simp|go_num,by omega,HLT,Lib.hid (fun _=>HM9.out (by first|rfl|trivial)),HE9 _ _,HFT,HGT⟩
              case measure=>simp[intOf];omega
           ·have g0:(f.pr==0)=false:=beq_eq_false_iff_ne.2 h0
            have hszf:=szF_at h0
            have H0:=Lib.hid h0
            clear h0
            by_cases h2:f.pr=2
            ·have g2:(f.pr==2)=true:=by simp[h2]
             have H2:=Lib.hid h2
             clear h2 hf2
             go_wp2_with fail
             refine(rname_any HL8.out f.p 2).mono ?_
             rintro e w6 ⟨rfl,hl6,f6⟩
             have HL9:=Lib.hid hl6
             have HF9:=Lib.hid (HF8.out.trans f6)
             have HG9:=Lib.hid (f6.keep HG8.out (by simp;omega))
             have hP9:=f6.keep HP8.out (by simp;omega)
             have HTY9:=Lib.hid (HTY8.out.keep (shB (f6.below (B:=base) (by omega) HBE.out)))
             clear u0 u1 u2 u3 u4 u5 u6 u7 l0 l1 l2 l3 l4 hgs1 hms c0 c1 z1 hLlt f6 hl6
             obtain⟨⟨u0,u1,u2,u3,u4,u5,u6,u7⟩,_⟩:=cells8 hP9
             have hms:=lt_of_heap hP9
             clear hP9
             have cS:=Lib.hid (IH.out w6 w6 base P f.t Bf Df df ef Lb Mb (nameL lj f.p 2) (bj||nameBad lj f.p 2) HN8.out (Below.refl _ _) (by have:=HL9.out.lt;omega) (by have:=HSZ.out;omega) HTY9.out HL9.out)
             go_wp2_with fail
             refine cS.out.mono ?_
             rintro e w7 ⟨rfl,⟨ln,bn,hl7,hb7,hm7,f7⟩⟩
             have HL7:=Lib.hid hl7
             have HF7:=Lib.hid (HF9.out.trans f7)
             have HG7:=Lib.hid (f7.keep HG9.out (by simp;omega))
             have HM7:=Lib.hid (HST.out bn ln (fun hbn=>by
              have h1:(bj||nameBad lj f.p 2)=false:=by
               cases hc:(bj||nameBad lj f.p 2)with
               | false=>rfl
               | true=>rw[hb7 hc] at hbn;cases hbn
              rw[Bool.or_eq_false_iff] at h1
              exact⟨h1.1,fun c=>absurd c H0.out,fun hl hm=>hm.f2 H2.out h1.2 (hm7 hbn (name_mst hm.1.ok h1.2 (.inr rfl)).1.ok)⟩))
             clear cS hl7 hb7 hm7 f7 u0 u1 u2 u3 u4 u5 u6 u7
             go_wp2_with fail
             go_roundw
             case rel=>exact⟨i+1,ln,bn,by first|rfl|simp|go_num,by omega,HL7,HM7,HE9 _ _,HF7,HG7⟩
             case measure=>simp[intOf];omega
            ·have g2:(f.pr==2)=false:=beq_eq_false_iff_ne.2 h2
             have H1:Hid (f.pr=1):=Lib.hid (by have:=H0.out;omega)
             have HP0:Hid (f.p=0):=Lib.hid (HF3.out h2)
             clear h2 hf2
             have cS:=Lib.hid (IH.out w8 w8 base P f.t Bf Df df ef Lb Mb lj bj HN8.out (Below.refl _ _) (by omega) (by have:=HSZ.out;omega) HTY8.out HL8.out)
             go_wp2_with fail
             refine cS.out.mono ?_
             rintro e w7 ⟨rfl,⟨ln,bn,hl7,hb7,hm7,f7⟩⟩
             have HL7:=Lib.hid hl7
             have HF7:=Lib.hid (HF8.out.trans f7)
             have HG7:=Lib.hid (f7.keep HG8.out (by simp;omega))
             have HM7:=Lib.hid (HST.out bn ln (fun hbn=>by
              have h1:bj=false:=by
               cases hc:bj with
               | false=>rfl
               | true=>rw[hb7 hc] at hbn;cases hbn
              exact⟨h1,fun c=>absurd c H0.out,fun hl hm=>hm.f1 H1.out HP0.out (hm7 hbn hm.1.ok)⟩))
             clear cS hl7 hb7 hm7 f7 u0 u1 u2 u3 u4 u5 u6 u7 l0 l1 l2 l3 l4 c0 c1 z1
             go_wp2_with fail
             go_roundw
             case rel=>exact⟨i+1,ln,bn,by first|rfl|simp|go_num,by omega,HL7,HM7,HE9 _ _,HF7,HG7⟩
             case measure=>simp[intOf];omega
        ·have q2:¬ (i:Int)<(fs.length:Int):=by omega
         rw[List.take_of_length_le (by omega)] at HMF
         have HD:Hid (SeenD k v rest args fs l m1 m2 lj b2 bj want):=Lib.hid ⟨HK.out,HW0.out,HKV.out,HRR.out,hr0,HM.out,HE.out,HMF.out,HEF.out⟩
         clear hlt hbe
         obtain⟨c0,c1,z1⟩:=HL.out.cells
         have hLlt:=HL.out.lt
         have hBWr:Below base w wr:=HB0.out.trans (HF.out.below (by rw[hT];omega) HBE.out)
         have HFSr:=Lib.hid (HFS.out.keep (shB hBWr))
         clear hBWr
         by_cases hr:rest=0
         ·have g0:(rest==0)=true:=by simp[hr]
          have HFIN:Hid (bj=false→FctsOk l→MayT l lj (.mk k v args fs rest)):=Lib.hid (by subst hr;exact HD.out.fin0)
          clear hr
          go_wp2_with fail
          refine bodyPost_ret (results_none rfl _ _ _) rfl ?_
          exact⟨rfl,⟨lj,bj,HL.out,fun c=>(by cases c),HFIN.out,HF.out⟩⟩
         ·have g0:(rest==0)=false:=beq_eq_false_iff_ne.2 hr
          have HR:=Lib.hid hr
          clear hr
          cases bj with
          | true =>
           go_wp2_with fail
           refine bodyPost_ret (results_none rfl _ _ _) rfl ?_
           exact⟨rfl,⟨lj,true,HL.out,fun _=>rfl,fun c=>(by cases c),HF.out⟩⟩
          | false =>
           have HFI:Hid (FctsOk l→rowBad lj rest k (labs fs)=false→MayT l ((rest,⟨3,k,labs fs⟩)::lj) (.mk k v args fs rest)):=Lib.hid (HD.out.fin1 HR.out rfl)
           have last:∀ (wz:World) (bz:Bool),LookAt wz base P Lb Mb lj bz→Fr [Lb,Mb] W wz→(bz=false→rowBad lj rest k (labs fs)=false)→∃ w9:World,(Instr.mapUpdate 74 (.map (some Mb)) (.int .i64 rest) (.agg #[.int .i64 rest,.int .i64 3,.int .i64 0,.int .i64 0,.slice none 0 0,.slice none 0 0,.int .i64 0,.int .i64 k,.int .i64 0,.slice B fs.length d,.int .i64 rest])).run Tryz.prog wz = .ok () w9∧MayD W w9 base P Lb Mb l false (.mk k v args fs rest):=fun wz bz h1 h2 h3=>by
            have hbz:Below base w wz:=HB0.out.trans (h2.below (by rw[hT];omega) HBE.out)
            obtain⟨w9,e1,e2,e3⟩:=h1.put rest (x:=⟨3,k,labs fs⟩) (u:=.agg #[.int .i64 rest,.int .i64 3,.int .i64 0,.int .i64 0,.slice none 0 0,.slice none 0 0,.int .i64 0,.int .i64 k,.int .i64 0,.slice B fs.length d,.int .i64 rest]) ⟨rest,rest,B,d,fs,HFS.out.keep (shB hbz),rfl,hfl,rfl⟩
            exact⟨w9,e1,⟨_,bz,e2,fun c=>(by cases c),fun hb hl=>HFI.out hl (h3 hb),h2.trans (e3.mono (L':=[Lb,Mb]) (fun x hx => .inl (by simp at hx;simp[hx])))⟩⟩
           have LAST:=Lib.hid last
           clear last
           have hlook:∃ (kn:Bool) (v' kd pr' r':Int) (Bx:Option Addr) (dx:Nat) (xs:List Fd),FsAt wr (· < base) P (.slice Bx xs.length dx) xs∧xs.length≤1073741824∧rowBad lj rest k (labs fs)=(kn&&(kd != 3||pr' != k||labs xs != labs fs))∧∀ w':World,Fr [] wr w'→(Instr.lookup 74 (.map (some Mb)) (.int .i64 rest) true).run Tryz.prog w' = .ok (.tuple #[.agg #[.int .i64 v',.int .i64 kd,.int .i64 0,.int .i64 0,.slice none 0 0,.slice none 0 0,.int .i64 0,.int .i64 pr',.int .i64 0,.slice Bx xs.length dx,.int .i64 r'],.bool kn]) w':=by
            cases hlk:lk rest lj with
            | none =>
             refine⟨false,0,0,0,0,none,0,[],FsAt.nil _ _,by simp,by unfold rowBad;rw[hlk];rfl,fun w' hf=>?_⟩
             exact look_none Tryz.underlying74 Tryz.underlying3 (HL.out.fr0 hf).mp hlk (zeroFc _)
            | some x =>
             obtain⟨u,⟨v',r',Bx,dx,xs,g1,g2,g3,rfl⟩,hlook⟩:=look_some Tryz.underlying74 Tryz.underlying3 HL.out.mp hlk
             exact⟨true,v',x.kind,x.pres,r',Bx,dx,xs,g1,g3,by unfold rowBad;rw[hlk,g2];simp,hlook⟩
           obtain⟨kn,v',kd,pr',r',Bx,dx,xs,g1,g3,hbd,hlook⟩:=hlook
           have HBD:=Lib.hid hbd
           have G1:=Lib.hid g1
           have G3:=Lib.hid g3
           clear hbd g1 g3
           have g8:=heap_new wr (.cells #[.int .i64 v',.int .i64 kd,.int .i64 0,.int .i64 0,.slice none 0 0,.slice none 0 0,.int .i64 0,.int .i64 pr',.int .i64 0,.slice Bx xs.length dx,.int .i64 r'] 88)
           have HFW0:=Lib.hid ((Fr.refl [] wr).alloc (.cells #[.int .i64 v',.int .i64 kd,.int .i64 0,.int .i64 0,.slice none 0 0,.slice none 0 0,.int .i64 0,.int .i64 pr',.int .i64 0,.slice Bx xs.length dx,.int .i64 r'] 88)).drew
           have HG80:Hid ((wr.alloc (.cells #[.int .i64 v',.int .i64 kd,.int .i64 0,.int .i64 0,.slice none 0 0,.slice none 0 0,.int .i64 0,.int .i64 pr',.int .i64 0,.slice Bx xs.length dx,.int .i64 r'] 88)).drew.heap[wr.heap.size]?=some (.cells #[.int .i64 v',.int .i64 kd,.int .i64 0,.int .i64 0,.slice none 0 0,.slice none 0 0,.int .i64 0,.int .i64 pr',.int .i64 0,.slice Bx xs.length dx,.int .i64 r'] 88 (0,0))):=Lib.hid g8
           clear g8
           go_upto_region 37 with(fail)
           refine r37 c0 l4 hLlt.1 hgs1 hlook ?rest37
           case rest37 =>
            intro v194 v195 v196 v197 v198 v199 v200 v201 v202 v203 v204
            dsimp only
            have HFW:=HFW0
            have HG8':=HG80
            clear HFW0 HG80 hlook
            generalize (wr.alloc (.cells #[.int .i64 v',.int .i64 kd,.int .i64 0,.int .i64 0,.slice none 0 0,.slice none 0 0,.int .i64 0,.int .i64 pr',.int .i64 0,.slice Bx xs.length dx,.int .i64 r'] 88)).drew=w8 at *
            generalize hF9:wr.heap.size=F9 at *
            have HL8:=Lib.hid (HL.out.fr0 HFW.out)
            have hG8:=HFW.out.keep HG.out (fun x=>by cases x)
            clear l0 l1 l2 l3 l4 c0 c1 z1 hgs1 hLlt
            obtain⟨⟨l0,l1,l2,l3,l4⟩,_⟩:=cells5 hG8
            have hgs1:=lt_of_heap hG8
            obtain⟨c0,c1,z1⟩:=HL8.out.cells
            have hLlt:=HL8.out.lt
            have t1:=(cell_of HG8'.out 1).trans rfl
            have t7:=(cell_of HG8'.out 7).trans rfl
            have t9:=(cell_of HG8'.out 9).trans rfl
            have hms:=lt_of_heap HG8'.out
            clear HG8'
            have G18:=Lib.hid (G1.out.keep (shB (HFW.out.below (B:=base) (by have:=HL.out.lt;omega) (fun x hx=>by cases hx))))
            have HFS8:=Lib.hid (HFSr.out.keep (shB (HFW.out.below (B:=base) (by have:=HL.out.lt;omega) (fun x hx=>by cases hx))))
            go_upto_region 38 with(fail)
            refine r38 l0 l1 l2 l3 l4 hgs1 t1 t7 t9 hms HBD G18 HFS8 G3 hfl ?rest227
            case rest227 =>
             intro v205 v206 v207 v208 v209 v210 v211 v212 v213 v214 v215 v216 v217 v218 v219 v220 v221 v222 v223 v224 v225 v226 bb wd HBR HR8
             dsimp only
             have HL9:=Lib.hid (HL8.out.fr0 HR8.out)
             have HG9:=Lib.hid (HR8.out.keep hG8 (fun x=>by cases x))
             have HFW9:=Lib.hid (HF.out.trans0 (HFW.out.trans HR8.out))
             clear l0 l1 l2 l3 l4 c0 c1 z1 hgs1 hLlt t1 t7 t9 hms hG8
             obtain⟨c0,c1,z1⟩:=HL9.out.cells
             have hLlt:=HL9.out.lt
             go_upto_if 227 with(fail)
             go_cut [] (fun wx=>∃ bz:Bool,Hid (LookAt wx base P Lb Mb lj bz)∧Hid (bz=false→rowBad lj rest k (labs fs)=false)∧Hid (Fr [Lb,Mb] W wx)∧Hid (wx.heap[T]?=some (.cells #[.int .i64 k,.int .i64 v,.slice A args.length c,.slice B fs.length d,.int .i64 rest] 27 (0,0))))
             case first=>as_aux_lemma =>
              have hfT:=LookAt.setBad_fr wd Lb true
              have HA1:=Lib.hid (HL9.out.bad true)
              have HA2:=Lib.hid (HFW9.out.trans (hfT.mono (L':=[Lb,Mb]) (fun x hx => .inl (by simp at hx;simp[hx]))))
              have HA3:=Lib.hid (hfT.keep HG9.out (by simp;omega))
              clear hfT
              cases bb with
              | false =>
               go_wp2_with fail
               go_meet
               exact⟨false,HL9,Lib.hid (fun _=>HBR.out (by first|rfl|trivial)),HFW9,HG9⟩
              | true =>
               go_wp2_with fail
               go_meet
               exact⟨true,HA1,Lib.hid (fun c=>by cases c),HA2,HA3⟩
             case rest =>
              obtain⟨bz,HLT,HBZ,HFT,HGT⟩:=hcut
              obtain⟨we,hwe⟩:∃ we,we=wc:=⟨_,rfl⟩
              subst hwe
              obtain⟨w9,hput,hmay⟩:=LAST.out we.drew bz (HLT.out.fr0 ((Fr.refl [] we).drew)) (HFT.out.drew) HBZ.out
              have HMAY:=Lib.hid hmay
              clear hmay c0 c1 z1 hLlt
              obtain⟨⟨l0,l1,l2,l3,l4⟩,_⟩:=cells5 HGT.out
              have hgs1:=lt_of_heap HGT.out
              obtain⟨c0,c1,z1⟩:=HLT.out.cells
              have hLlt:=HLT.out.lt
              go_upto_region 40 with(fail)
              refine r40 l0 l1 l2 l3 l4 hgs1 c0 hLlt.1 hput ?rest40
              case rest40 =>
               intro v231 v232 v233 v234 v235 v236 v237 v238 v239 v240 v241 v242 v243 v244 v245
               dsimp only
               go_wp2_with fail
               go_end0
               exact⟨rfl,HMAY.out⟩
theorem rmay_all:∀ N,MYC N
 | 0=>by intro _ _ _ _ _ _ _ _ _ _ _ _ _ h;exact absurd h (Nat.not_lt_zero _)
 | N+1=>rmay_step N (rmay_all N)
end
end
end Go.Proofs.YtoimdiballicnaaGreatDoor
