/- A part of the proof: Mk, Pz, We, Fwr, Wf, Ft, Qa, Fu, Ha, Fv. -/
import Derived.Test.YtabhpdhajajoiaaGreatDoorCards
import Derived.Test.YtabhpdhajajoiaaGreatDoorTie
import Derived.SizedLaws
import Derived.Shelf.Vars
import Derived.WalkKit
import Derived.ProofKit
import Derived.OpenShut
import Derived.LaidMore
import Derived.Carry
import Derived.Deep.DeepHandedRow
import Derived.Deep.DeepWitnessRowRef
import Derived.Lib.LaidTab
import Derived.Lib.LaidU8
import Derived.Stop.LaidErr
import Derived.Test.YtabhpdhajajoiaaGreatDoorEb21
namespace Go.Proofs.YtabhpdhajajoiaaGreatDoor
open Go.RowKit
open _root_.Go.Proofs.Tryz
set_option linter.all false
set_option maxHeartbeats 16000000
set_option maxRecDepth 100000
open List renaming length_cons→Lc',length_append→La',getElem?_eq_getElem→Lg',cons_append→Lp',append_assoc→Ls'
open Nat renaming lt_of_lt_of_le→Nl',le_refl→Nr'
open Bool renaming and_eq_true→Ba'
theorem Va(ts:List Tok)(hE:B8 ts)(N:Nat)(ihP:GP ts N 2 .pat 147):GM ts (N+1):=by
 intro P g c st a w h hm;obtain⟨t,ht⟩:=A4 h.inb;have nxt:∀ {l:List LB},isB t st.ok l=true→∃ u,ts[st.i+1]?=some u:=fun hb=>A4 ((hE.2 _ _ ht).1.1 (G4 hb).2)
 cases h0:isB t st.ok [[45]] with
 | true =>
  obtain⟨u,hu⟩:=nxt h0;by_cases hk:u.k=4
  ·exact S1 ts hE N ihP P g c st a w h hm t ht h0 u hu hk
  ·exact N3 ts hE N ihP P g c st a w h hm t ht h0 u hu hk
 | false =>
  cases h1:isB t st.ok [[116,114,117,101]] with
  | true=>exact Vb ts hE N ihP P g c st a w h hm t ht h0 h1
  | false =>
   cases h2:isB t st.ok [[102,97,108,115,101]] with
   | true=>exact S0 ts hE N ihP P g c st a w h hm t ht h0 h1 h2
   | false =>
    cases h3:isB t st.ok [[40]] with
    | true=>exact S2 ts hE N ihP P g c st a w h hm t ht h0 h1 h2 h3
    | false =>
     cases h4:isB t st.ok [[123]] with
     | true =>
      obtain⟨u,hu⟩:=nxt h4
      cases hb:isB u st.ok [[125]] with
      | true=>exact Sz ts hE N ihP P g c st a w h hm t ht h0 h1 h2 h3 h4 u hu hb
      | false=>exact Xd ts hE N ihP P g c st a w h hm t ht h0 h1 h2 h3 h4 u hu hb
     | false=>exact U9 ts hE N ihP P g c st a w h hm t ht h0 h1 h2 h3 h4
structure Every (ts:List Tok)(N:Nat):Prop where
 all:Fo ts N
 b:GB ts N
 f:GF ts N
 a:GA ts N
 pat:GP ts N 2 .pat 147
 patom:GP ts N 1 .patom 177
 m:GM ts N
theorem GE.zero(ts:List Tok)(lv:Nat)(nt:NT)(fid:FuncId):GE ts 0 lv nt fid:=fun _ _ _ _ _ _ h=>absurd h (Nat.not_lt_zero _)
theorem every(ts:List Tok)(hE:B8 ts):∀ N,Every ts N
 | 0=>⟨⟨GE.zero _ _ _ _,GE.zero _ _ _ _,GE.zero _ _ _ _,GE.zero _ _ _ _,GE.zero _ _ _ _,GE.zero _ _ _ _,GE.zero _ _ _ _,GE.zero _ _ _ _,GE.zero _ _ _ _,GE.zero _ _ _ _,GE.zero _ _ _ _,GE.zero _ _ _ _⟩,
   fun _ _ _ _ _ _ _ h=>absurd h (Nat.not_lt_zero _),fun _ _ _ _ _ _ _ _ _ h=>absurd h (Nat.not_lt_zero _),fun _ _ _ _ _ _ _ _ h=>absurd h (Nat.not_lt_zero _),fun _ _ _ _ _ _ h=>absurd h (Nat.not_lt_zero _),fun _ _ _ _ _ _ h=>absurd h (Nat.not_lt_zero _),fun _ _ _ _ _ _ _ h=>absurd h (Nat.not_lt_zero _)⟩
 | N+1=>by
  have ih:=every ts hE N
  exact⟨⟨fn_step ts hE N ih.all,seq_step ts hE N ih.all,Z3 ts hE N ih.all ih.f ih.a,or_step ts hE N ih.all,and_step ts hE N ih.all,cmp_step ts hE N ih.all,sum_step ts hE N ih.all,prod_step ts hE N ih.all,X2 ts hE N ih.all,app_step ts hE N ih.all,post_step ts hE N ih.all,Zh ts hE N ih.all ih.b⟩,
   Ua ts hE N ih.all,fn0_step ts hE N ih.all,Zg ts hE N ih.all ih.pat,pat_step ts hE N ih.patom,Xm ts hE N ih.m,Va ts hE N ih.pat⟩
theorem seq_any(ts:List Tok)(hE:B8 ts)(P g c:Nat)(st:St)(w:World)(h:PSt P g c ts st w):Calls prog 40 #[.pointer (some ⟨P,0,none⟩)] w (Il P g c ts st (body .seq) w):=
 (every ts hE (16 *(ts.length-st.i)+14)).all.seq P g c st w h (by omega)
section
attribute [local go_sem ↓] Go.wp_at_zero Go.wp_at_succ
theorem Ji{s:LB}{ts:List Tok}(h:Da s = .ok ts):B8 ts:=by
 obtain⟨_,_,h3,h4,ys,rfl,hg⟩:=L4 h;refine⟨h3,fun i t ht=>⟨?_,h4 t (List.mem_of_getElem? ht)⟩⟩;rw[La',List.length_singleton];rcases Nat.lt_trichotomy i ys.length with hi|hi|hi
 ·rw[List.getElem?_append_left hi] at ht;have:=hg t (List.mem_of_getElem? ht);exact⟨fun _=>by omega,fun _ h=>by have:=this.1;omega⟩
 ·subst hi;rw[List.getElem?_append_right (Nr' _),Nat.sub_self] at ht;simp at ht;subst ht;exact⟨fun h=>absurd rfl h,fun h=>by omega⟩
 ·have:(ys++[(⟨0,s.length,[],0⟩:Tok)])[i]?=none:=List.getElem?_eq_none (by simp;omega);rw[this] at ht;cases ht
theorem Pf{ts:List Tok}(h:B8 ts):Gs ts:=fun j t ht hk=>(h.2 j t ht).1.1 hk
inductive PR (s:LB):Ab→Int→Int→Prop
 | lexErr {er:Int} {p:Nat} (h:Da s = .error (er,p)):PR s .zero er p
 | syn {ts:List Tok} {x:Ab} {st':St} {t:Tok} (hl:Da s = .ok ts) (hr:Run ts (body .seq) ⟨0,true⟩ (.e x) st') (ht:ts[st'.i]?=some t) (hbad:st'.ok=false∨t.k≠0):PR s .zero 21 t.at'
 | many {ts:List Tok} {x:Ab} {st':St} {t:Tok} (hl:Da s = .ok ts) (hr:Run ts (body .seq) ⟨0,true⟩ (.e x) st') (ht:ts[st'.i]?=some t) (hok:st'.ok=true) (hend:t.k=0) (hm:4096<szE x):PR s .zero 3 0
 | deep {ts:List Tok} {x:Ab} {st':St} {t:Tok} {p:Int×Nat} (hl:Da s = .ok ts) (hr:Run ts (body .seq) ⟨0,true⟩ (.e x) st') (ht:ts[st'.i]?=some t) (hok:st'.ok=true) (hend:t.k=0) (hm:szE x≤4096) (hd:Dz 200 x=some p):PR s .zero 22 p.1
 | ok {ts:List Tok} {x:Ab} {st':St} {t:Tok} (hl:Da s = .ok ts) (hr:Run ts (body .seq) ⟨0,true⟩ (.e x) st') (ht:ts[st'.i]?=some t) (hok:st'.ok=true) (hend:t.k=0) (hm:szE x≤4096) (hd:Dz 200 x=none):PR s x 0 0
theorem Q3(s:ByteArray)(hs:s.size≤9223372036854775807)(w:World)(hV:Dx w):
  Calls prog 18 #[.string s] w fun e w'=>∃ (k a:Int) (nm:LB) (n:Int) (s':LB) (ls:List LB) (args:List Ab) (arms:List (Ak×Ab)) (A5:Option Addr) (n5 c5:Nat) (A6:Option Addr) (n6 c6:Nat) (A7:Option Addr) (n7 c7:Nat) (er at_:Int),
   e = .returned (.tuple #[.agg #[vI k,vI a,vS nm,vI n,vS s',.slice A5 n5 c5,.slice A6 n6 c6,.slice A7 n7 c7],vI er,vI at_])∧Aj w' (fun b=>w.heap.size≤b) (.mk k a nm n s' ls args arms) [vI k,vI a,vS nm,vI n,vS s',.slice A5 n5 c5,.slice A6 n6 c6,.slice A7 n7 c7]∧PR s.data.toList (.mk k a nm n s' ls args arms) er at_∧Fr [] w w':=by
 have HV:=Hz hV;have HS:=Hz hs;clear hV hs;go_enter func18,ntmps18;go_wp2_with fail;have f0:Fr [] w (w.alloc (.cells #[vI 0,vI 0,vE,vI 0,vE,vZ,vZ,vZ] 35)):=(Fr.refl [] w).alloc _;have g0:=Ad w (.cells #[vI 0,vI 0,vE,vI 0,vE,vZ,vZ,vZ] 35)
 generalize w.alloc (.cells #[vI 0,vI 0,vE,vI 0,vE,vZ,vZ,vZ] 35)=w1 at *
 generalize hB:w.heap.size=B at *
 cases hl:Da s.data.toList with
 | error x =>
  obtain⟨er,p⟩:=x;have her:er≠0:=by rcases Ms hl with⟨_,h,_⟩| ⟨_,_,h,_⟩<;> omega
  have her2:(er != 0)=true:=bne_iff_ne.2 her;have HL:=Hz hl;clear hl her;refine(Lex_er s HS.out HL.out w1 (HV.out.fr f0)).mono ?_;rintro e w2 ⟨rfl,f1⟩;have g0:=f1.keep g0 nE;have F:=f0.trans f1;clear f0 f1;have HG:=Hz (Ar g0 (vI 0) (vI 0) (vE) (vI 0) (vE) (vZ) (vZ) (vZ));have HF:=Hz (F.step (Ai w2 B (vI 0) (vI 0) (vE) (vI 0) (vE) (vZ) (vZ) (vZ)) (fun x hx => .inr (by simp at hx;omega)));unfold st8 at HG HF;have hBy:=Aa g0;obtain⟨⟨u0,u1,u2,u3,u4,u5,u6,u7⟩,z0,z1,z2,z3,z4,z5,z6,z7⟩:=Ac g0;go_wp2_with fail;generalize (((((((w2.setCell ⟨B,0,none⟩ (vI 0)).setCell ⟨B,1,none⟩ (vI 0)).setCell ⟨B,2,none⟩ (vE)).setCell ⟨B,3,none⟩ (vI 0)).setCell ⟨B,4,none⟩ (vE)).setCell ⟨B,5,none⟩ (vZ)).setCell ⟨B,6,none⟩ (vZ)).setCell ⟨B,7,none⟩ (vZ)=Z at HG HF ⊢;obtain⟨⟨d0,d1,d2,d3,d4,d5,d6,d7⟩,_⟩:=Ac HG.out;refine bodyPost_ret (v:=.tuple #[.agg #[vI 0,vI 0,vE,vI 0,vE,vZ,vZ,vZ],vI er,vI p]) ?_ rfl ?_
  ·simp[results,Tryz.f18,go_sem,d0,d1,d2,d3,d4,d5,d6,d7]
  ·exact⟨0,0,[],0,[],[],[],[],none,0,0,none,0,0,none,0,0,er,p,rfl,Aj.leaf Z _ 0 0 [] 0 [],PR.lexErr HL.out,HF.out⟩
 | ok ts =>
  have HE:=Hz (Ji hl);obtain⟨_,_,_,_,ys,hys,_⟩:=L4 hl;have htl:0<ts.length:=by rw[hys];simp
  clear hys;have HL:=Hz hl;clear hl;refine(Lex_ok s HS.out HL.out w1 (HV.out.fr f0)).mono ?_;rintro e w2 ⟨⟨g,c,rfl,hg,hRT⟩,f1⟩;have HRT:=Hz hRT;clear hRT;have g0:=f1.keep g0 nE;have F:=f0.trans f1;have hBw:=Aa g0;clear f0 f1;go_wp2_with fail;have fp:Fr [] w2 (w2.alloc (.cells #[.slice (some ⟨g,0,none⟩) ts.length c,vI 0,.bool true] 76)):=(Fr.refl [] w2).alloc _;have qP:=Ad w2 (.cells #[.slice (some ⟨g,0,none⟩) ts.length c,vI 0,.bool true] 76)
  have h0:PSt w2.heap.size g c ts ⟨0,true⟩ (w2.alloc (.cells #[.slice (some ⟨g,0,none⟩) ts.length c,vI 0,.bool true] 76)):=⟨qP,HRT.out.fr fp hg,Nl' hg fp.size,by omega,htl⟩
  have g0:=fp.keep g0 nE;have F:=F.trans fp
  generalize w2.alloc (.cells #[.slice (some ⟨g,0,none⟩) ts.length c,vI 0,.bool true] 76)=w3 at *
  generalize w2.heap.size=P at *
  clear HRT qP fp;have hBw3:=Aa g0;have hPw3:=Aa h0.blk;refine(seq_any ts HE.out P g c ⟨0,true⟩ w3 h0).mono ?_;rintro e x1 ⟨k1,a1,nm1,n1,s1,ls1,args1,arms1,A51,n51,c51,A61,n61,c61,A71,n71,c71,st2,rfl,hx1,hr1,hst2,f1⟩;have g0:=f1.keep g0 (by simp;omega);have F:=F.step f1 (fun x hx => .inr (by simp at hx;omega));have hs1:=f1.size;have hBx1:=Aa g0;clear f1 h0;obtain⟨p0,p1,p2,_⟩:=Ep hst2.blk;have hPx:=Aa hst2.blk;obtain⟨t,ht⟩:=A4 hst2.inb;have HT:=Hz ht;clear ht
  cases hok:st2.ok with
  | false =>
   rw[hok] at p2;have HOK:=Hz hok;clear hok;have r1:=Xz;go_wp2_with fail;clear p0 p1 p2;have q1:=Ad x1 (.cells #[vI k1,vI a1,vS nm1,vI n1,vS s1,.slice A51 n51 c51,.slice A61 n61 c61,.slice A71 n71 c71] 35);have fb1:Fr [] x1 (x1.alloc (.cells #[vI k1,vI a1,vS nm1,vI n1,vS s1,.slice A51 n51 c51,.slice A61 n61 c61,.slice A71 n71 c71] 35)):=(Fr.refl [] x1).alloc _
   generalize hY1:x1.alloc (.cells #[vI k1,vI a1,vS nm1,vI n1,vS s1,.slice A51 n51 c51,.slice A61 n61 c61,.slice A71 n71 c71] 35)=x2 at *
   have hT1:=Aa q1
   generalize hTT1:x1.heap.size=T9 at *
   have g0:=fb1.keep g0 nE;have h2:=hst2.fr fb1;have F:=F.trans fb1;have hx1:=hx1.keep (ok':=fun b=>B<b∧b<x2.heap.size) (Sh.of_fr fb1 (fun b hb hlt=>⟨⟨by omega,by have:=fb1.size;omega⟩,fun x=>by cases x⟩));clear fb1 hst2;refine(B7 P g c ts st2 t HT.out x2 h2 HE.out).mono ?_;rintro e y9 ⟨rfl,fm⟩;have g0:=fm.keep g0 nE;have F:=F.trans0 fm;have h2:=h2.fr fm;have q1:=fm.keep q1 nE;have hx1:=hx1.keep (ok':=fun b=>B<b∧b<y9.heap.size) (Sh.of_fr fm (fun b hb hlt=>⟨⟨hb.1,by have:=fm.size;omega⟩,fun x=>by cases x⟩));clear fm;have HG:=Hz (Ar g0 (vI 0) (vI 0) (vE) (vI 0) (vE) (vZ) (vZ) (vZ));have HF:=Hz (F.step (Ai y9 B (vI 0) (vI 0) (vE) (vI 0) (vE) (vZ) (vZ) (vZ)) (fun x hx => .inr (by simp at hx;omega)));unfold st8 at HG HF;have hBy:=Aa g0;obtain⟨⟨u0,u1,u2,u3,u4,u5,u6,u7⟩,z0,z1,z2,z3,z4,z5,z6,z7⟩:=Ac g0;go_wp2_with fail;generalize (((((((y9.setCell ⟨B,0,none⟩ (vI 0)).setCell ⟨B,1,none⟩ (vI 0)).setCell ⟨B,2,none⟩ (vE)).setCell ⟨B,3,none⟩ (vI 0)).setCell ⟨B,4,none⟩ (vE)).setCell ⟨B,5,none⟩ (vZ)).setCell ⟨B,6,none⟩ (vZ)).setCell ⟨B,7,none⟩ (vZ)=Z at HG HF ⊢;obtain⟨⟨d0,d1,d2,d3,d4,d5,d6,d7⟩,_⟩:=Ac HG.out;refine bodyPost_ret (v:=.tuple #[.agg #[vI 0,vI 0,vE,vI 0,vE,vZ,vZ,vZ],vI 21,vI t.at']) ?_ rfl ?_
   ·simp[results,Tryz.f18,go_sem,d0,d1,d2,d3,d4,d5,d6,d7]
   ·exact⟨0,0,[],0,[],[],[],[],none,0,0,none,0,0,none,0,0,21,t.at',rfl,Aj.leaf Z _ 0 0 [] 0 [],PR.syn HL.out hr1 HT.out (.inl HOK.out),HF.out⟩
  | true =>
   rw[hok] at p2;have HOK:=Hz hok;clear hok;have r0:=Ls;have r1:=Xz;go_wp2_with fail;clear p0 p1 p2;have q1:=Ad x1 (.cells #[vI k1,vI a1,vS nm1,vI n1,vS s1,.slice A51 n51 c51,.slice A61 n61 c61,.slice A71 n71 c71] 35);have fb1:Fr [] x1 (x1.alloc (.cells #[vI k1,vI a1,vS nm1,vI n1,vS s1,.slice A51 n51 c51,.slice A61 n61 c61,.slice A71 n71 c71] 35)):=(Fr.refl [] x1).alloc _
   generalize hY1:x1.alloc (.cells #[vI k1,vI a1,vS nm1,vI n1,vS s1,.slice A51 n51 c51,.slice A61 n61 c61,.slice A71 n71 c71] 35)=x2 at *
   have hT1:=Aa q1
   generalize hTT1:x1.heap.size=T9 at *
   have g0:=fb1.keep g0 nE;have h2:=hst2.fr fb1;have F:=F.trans fb1;have hx1:=hx1.keep (ok':=fun b=>B<b∧b<x2.heap.size) (Sh.of_fr fb1 (fun b hb hlt=>⟨⟨by omega,by have:=fb1.size;omega⟩,fun x=>by cases x⟩));clear fb1 hst2;refine(B7 P g c ts st2 t HT.out x2 h2 HE.out).mono ?_;rintro e y8 ⟨rfl,fm⟩;have g0:=fm.keep g0 nE;have F:=F.trans0 fm;have h2:=h2.fr fm;have q1:=fm.keep q1 nE;have hx1:=hx1.keep (ok':=fun b=>B<b∧b<y8.heap.size) (Sh.of_fr fm (fun b hb hlt=>⟨⟨hb.1,by have:=fm.size;omega⟩,fun x=>by cases x⟩));clear fm
   cases hk:(t.k != 0)with
   | true =>
    have HK:Hid (t.k≠0):=Hz (bne_iff_ne.1 hk);go_wp2_with fail;refine(B7 P g c ts st2 t HT.out y8 h2 HE.out).mono ?_;rintro e y9 ⟨rfl,fm⟩;have g0:=fm.keep g0 nE;have F:=F.trans0 fm;have h2:=h2.fr fm;have q1:=fm.keep q1 nE;have hx1:=hx1.keep (ok':=fun b=>B<b∧b<y9.heap.size) (Sh.of_fr fm (fun b hb hlt=>⟨⟨hb.1,by have:=fm.size;omega⟩,fun x=>by cases x⟩));clear fm;have HG:=Hz (Ar g0 (vI 0) (vI 0) (vE) (vI 0) (vE) (vZ) (vZ) (vZ));have HF:=Hz (F.step (Ai y9 B (vI 0) (vI 0) (vE) (vI 0) (vE) (vZ) (vZ) (vZ)) (fun x hx => .inr (by simp at hx;omega)));unfold st8 at HG HF;have hBy:=Aa g0;obtain⟨⟨u0,u1,u2,u3,u4,u5,u6,u7⟩,z0,z1,z2,z3,z4,z5,z6,z7⟩:=Ac g0;go_wp2_with fail;generalize (((((((y9.setCell ⟨B,0,none⟩ (vI 0)).setCell ⟨B,1,none⟩ (vI 0)).setCell ⟨B,2,none⟩ (vE)).setCell ⟨B,3,none⟩ (vI 0)).setCell ⟨B,4,none⟩ (vE)).setCell ⟨B,5,none⟩ (vZ)).setCell ⟨B,6,none⟩ (vZ)).setCell ⟨B,7,none⟩ (vZ)=Z at HG HF ⊢;obtain⟨⟨d0,d1,d2,d3,d4,d5,d6,d7⟩,_⟩:=Ac HG.out;refine bodyPost_ret (v:=.tuple #[.agg #[vI 0,vI 0,vE,vI 0,vE,vZ,vZ,vZ],vI 21,vI t.at']) ?_ rfl ?_
    ·simp[results,Tryz.f18,go_sem,d0,d1,d2,d3,d4,d5,d6,d7]
    ·exact⟨0,0,[],0,[],[],[],[],none,0,0,none,0,0,none,0,0,21,t.at',rfl,Aj.leaf Z _ 0 0 [] 0 [],PR.syn HL.out hr1 HT.out (.inr HK.out),HF.out⟩
   | false =>
    have HK:Hid (t.k=0):=Hz (by simpa using hk);have hcost:=hr1.cost (b:=0) (wtE .seq) HOK.out
    have hsz:szE (.mk k1 a1 nm1 n1 s1 ls1 args1 arms1)≤8194:=by
     have h1:szE (.mk k1 a1 nm1 n1 s1 ls1 args1 arms1)+1≤0+2 *(st2.i-0):=hcost;have:=h2.inb;have:=HE.out.1;omega
    have HSZ:=Hz hsz;clear hcost hsz;obtain⟨⟨l0,l1,l2,l3,l4,l5,l6,l7⟩,_⟩:=Ac q1;have hT9:=Aa q1;have cC:=Hz (Mg k1 a1 nm1 n1 s1 ls1 args1 arms1 A51 n51 c51 A61 n61 c61 A71 n71 c71 4096 (by omega) (by omega) y8 (hx1.keep (ok':=fun b=>b<y8.heap.size) (Sh.of_fr (Fr.refl [] y8) (fun b hb hlt=>⟨hb.2,fun x=>by cases x⟩))) (by have:=HSZ.out;omega));go_wp2_with fail;refine cC.out.mono ?_;rintro e y9 ⟨rfl,fm⟩;clear cC hk;have g0:=fm.keep g0 nE;have q1:=fm.keep q1 nE;have F:=F.trans0 fm;have hx1:=hx1.keep (ok':=fun b=>B<b∧b<y9.heap.size) (Sh.of_fr fm (fun b hb hlt=>⟨⟨hb.1,by have:=fm.size;omega⟩,fun x=>by cases x⟩));clear fm l0 l1 l2 l3 l4 l5 l6 l7 hT9
    generalize hRR:min (szE (.mk k1 a1 nm1 n1 s1 ls1 args1 arms1):Int) (4096+1)=RR at *
    by_cases hm:4096<szE (.mk k1 a1 nm1 n1 s1 ls1 args1 arms1)
    ·have hmin:RR=4097:=by omega
     have HM:=Hz hm;clear hm hRR;subst hmin;have HG:=Hz (Ar g0 (vI 0) (vI 0) (vE) (vI 0) (vE) (vZ) (vZ) (vZ));have HF:=Hz (F.step (Ai y9 B (vI 0) (vI 0) (vE) (vI 0) (vE) (vZ) (vZ) (vZ)) (fun x hx => .inr (by simp at hx;omega)));unfold st8 at HG HF;have hBy:=Aa g0;obtain⟨⟨u0,u1,u2,u3,u4,u5,u6,u7⟩,z0,z1,z2,z3,z4,z5,z6,z7⟩:=Ac g0;go_wp2_with fail;generalize (((((((y9.setCell ⟨B,0,none⟩ (vI 0)).setCell ⟨B,1,none⟩ (vI 0)).setCell ⟨B,2,none⟩ (vE)).setCell ⟨B,3,none⟩ (vI 0)).setCell ⟨B,4,none⟩ (vE)).setCell ⟨B,5,none⟩ (vZ)).setCell ⟨B,6,none⟩ (vZ)).setCell ⟨B,7,none⟩ (vZ)=Z at HG HF ⊢;obtain⟨⟨d0,d1,d2,d3,d4,d5,d6,d7⟩,_⟩:=Ac HG.out;refine bodyPost_ret (v:=.tuple #[.agg #[vI 0,vI 0,vE,vI 0,vE,vZ,vZ,vZ],vI 3,vI 0]) ?_ rfl ?_
     ·simp[results,Tryz.f18,go_sem,d0,d1,d2,d3,d4,d5,d6,d7]
     ·exact⟨0,0,[],0,[],[],[],[],none,0,0,none,0,0,none,0,0,3,0,rfl,Aj.leaf Z _ 0 0 [] 0 [],PR.many HL.out hr1 HT.out HOK.out HK.out HM.out,HF.out⟩
    ·have HM:Hid (szE (.mk k1 a1 nm1 n1 s1 ls1 args1 arms1)≤4096):=Hz (by omega);have hle:RR≤4096:=by omega
     clear hm hRR;obtain⟨⟨l0,l1,l2,l3,l4,l5,l6,l7⟩,_⟩:=Ac q1;have hT9:=Aa q1;have cD:=Hz (Oq k1 a1 nm1 n1 s1 ls1 args1 arms1 A51 n51 c51 A61 n61 c61 A71 n71 c71 200 y9 (hx1.keep (ok':=fun b=>b<y9.heap.size) (Sh.of_fr (Fr.refl [] y9) (fun b hb hlt=>⟨hb.2,fun x=>by cases x⟩))) (by have:=HSZ.out;omega))
     cases hd:Dz 200 (.mk k1 a1 nm1 n1 s1 ls1 args1 arms1)with
     | some p =>
      have HDP:=Hz hd;rw[hd] at cD;clear hd;go_wp2_with fail;refine cD.out.mono ?_;rintro e y10 ⟨rfl,fm⟩;clear cD hle l0 l1 l2 l3 l4 l5 l6 l7 hT9;have g0:=fm.keep g0 nE;have F:=F.trans0 fm;have HG:=Hz (Ar g0 (vI 0) (vI 0) (vE) (vI 0) (vE) (vZ) (vZ) (vZ));have HF:=Hz (F.step (Ai y10 B (vI 0) (vI 0) (vE) (vI 0) (vE) (vZ) (vZ) (vZ)) (fun x hx => .inr (by simp at hx;omega)));unfold st8 at HG HF;have hBy:=Aa g0;obtain⟨⟨u0,u1,u2,u3,u4,u5,u6,u7⟩,z0,z1,z2,z3,z4,z5,z6,z7⟩:=Ac g0;go_wp2_with fail;generalize (((((((y10.setCell ⟨B,0,none⟩ (vI 0)).setCell ⟨B,1,none⟩ (vI 0)).setCell ⟨B,2,none⟩ (vE)).setCell ⟨B,3,none⟩ (vI 0)).setCell ⟨B,4,none⟩ (vE)).setCell ⟨B,5,none⟩ (vZ)).setCell ⟨B,6,none⟩ (vZ)).setCell ⟨B,7,none⟩ (vZ)=Z at HG HF ⊢;obtain⟨⟨d0,d1,d2,d3,d4,d5,d6,d7⟩,_⟩:=Ac HG.out;refine bodyPost_ret (v:=.tuple #[.agg #[vI 0,vI 0,vE,vI 0,vE,vZ,vZ,vZ],vI 22,vI p.1]) ?_ rfl ?_
      ·simp[results,Tryz.f18,go_sem,d0,d1,d2,d3,d4,d5,d6,d7]
      ·exact⟨0,0,[],0,[],[],[],[],none,0,0,none,0,0,none,0,0,22,p.1,rfl,Aj.leaf Z _ 0 0 [] 0 [],PR.deep HL.out hr1 HT.out HOK.out HK.out HM.out HDP.out,HF.out⟩
     | none =>
      have HDP:=Hz hd;rw[hd] at cD;clear hd;go_wp2_with fail;refine cD.out.mono ?_;rintro e y10 ⟨rfl,fm⟩;clear cD hle l0 l1 l2 l3 l4 l5 l6 l7 hT9;have g0:=fm.keep g0 nE;have q1:=fm.keep q1 nE;have F:=F.trans0 fm;have hx1:=hx1.keep (ok':=fun b=>B<b) (Sh.of_fr fm (fun b hb hlt=>⟨hb.1,fun x=>by cases x⟩));have HG:=Hz (Ar g0 (vI k1) (vI a1) (vS nm1) (vI n1) (vS s1) (.slice A51 n51 c51) (.slice A61 n61 c61) (.slice A71 n71 c71));have HF:=Hz (F.step (Ai y10 B (vI k1) (vI a1) (vS nm1) (vI n1) (vS s1) (.slice A51 n51 c51) (.slice A61 n61 c61) (.slice A71 n71 c71)) (fun x hx => .inr (by simp at hx;omega)));have HX:Hid (Aj (st8 y10 B (vI k1) (vI a1) (vS nm1) (vI n1) (vS s1) (.slice A51 n51 c51) (.slice A61 n61 c61) (.slice A71 n71 c71)) (fun b=>w.heap.size≤b) (.mk k1 a1 nm1 n1 s1 ls1 args1 arms1) [vI k1,vI a1,vS nm1,vI n1,vS s1,.slice A51 n51 c51,.slice A61 n61 c61,.slice A71 n71 c71]):=Hz (hx1.keep (Sh.of_fr (Ai y10 B (vI k1) (vI a1) (vS nm1) (vI n1) (vS s1) (.slice A51 n51 c51) (.slice A61 n61 c61) (.slice A71 n71 c71)) (fun b hb hlt=>⟨by omega,by simp;omega⟩)));unfold st8 at HG HF HX;have hBy:=Aa g0;have hTy:=Aa q1;obtain⟨⟨u0,u1,u2,u3,u4,u5,u6,u7⟩,z0,z1,z2,z3,z4,z5,z6,z7⟩:=Ac g0;obtain⟨⟨l0,l1,l2,l3,l4,l5,l6,l7⟩,_⟩:=Ac q1;go_wp2_with fail;generalize (((((((y10.setCell ⟨B,0,none⟩ (vI k1)).setCell ⟨B,1,none⟩ (vI a1)).setCell ⟨B,2,none⟩ (vS nm1)).setCell ⟨B,3,none⟩ (vI n1)).setCell ⟨B,4,none⟩ (vS s1)).setCell ⟨B,5,none⟩ (.slice A51 n51 c51)).setCell ⟨B,6,none⟩ (.slice A61 n61 c61)).setCell ⟨B,7,none⟩ (.slice A71 n71 c71)=Z at HG HF HX ⊢;obtain⟨⟨d0,d1,d2,d3,d4,d5,d6,d7⟩,_⟩:=Ac HG.out;refine bodyPost_ret (v:=.tuple #[.agg #[vI k1,vI a1,vS nm1,vI n1,vS s1,.slice A51 n51 c51,.slice A61 n61 c61,.slice A71 n71 c71],vI 0,vI 0]) ?_ rfl ?_
      ·simp[results,Tryz.f18,go_sem,d0,d1,d2,d3,d4,d5,d6,d7]
      ·exact⟨_,_,_,_,_,_,_,_,_,_,_,_,_,_,_,_,_,0,0,rfl,HX.out,PR.ok HL.out hr1 HT.out HOK.out HK.out HM.out HDP.out,HF.out⟩
end
section
open Go.ChangeShapes Go.WideShapes Go.ChangeAt Go.ChangeMaps Go.RowKit
theorem own:ownKnob Tryz.prog.godebug=none:=by kernel_rfl
theorem star : "*" ++ "errors.errorString" = "*errors.errorString" := by decide
theorem rowErr (u : TypeId) (h : Tryz.prog.typeName? 3 u = some "*errors.errorString") : u = 255 :=
 typeName_ptr_named (nm := "errors.errorString") (by rw [star]; kernel_rfl) (by kernel_rfl) (by decide) u (by rw [star]; exact h)
theorem gTabType:(Tryz.prog.globals[0]?).map (·.type)=some 227:=by kernel_rfl
theorem gRngType:(Tryz.prog.globals[3]?).map (·.type)=some 153:=by kernel_rfl
theorem cellsTab:Tryz.prog.cellsOf 227=20:=by kernel_rfl
theorem cellsU64:Tryz.prog.cellsOf 207=1:=by kernel_rfl
theorem cellsErr:Tryz.prog.cellsOf 257=1:=by kernel_rfl
theorem cellsStr:Tryz.prog.cellsOf 9=1:=by kernel_rfl
theorem vars_in{W:World}(h:W.ShapedOpen Tryz.prog):Tryz.prog.globals.size≤W.heap.size:=by
 have hb:(((begin Tryz.prog (fun _ _=>0) default).world.heap[Tryz.prog.globals.size-1]?).bind Obj.row?).isSome=true:=by kernel_rfl
 obtain⟨⟨z,t⟩,hz⟩:=Option.isSome_iff_exists.1 hb
 have hlt:Tryz.prog.globals.size-1<Tryz.prog.globals.size:=of_decide_eq_true (by kernel_rfl)
 obtain⟨cs,hcs,_⟩:=h.1 _ z t hlt hz
 have:=(Array.getElem?_eq_some_iff.1 hcs).1
 omega
theorem Sm{W:World}(h:laidMetH Tryz.prog Rows.showPatternsRow.laid W)(hs:W.ShapedOpen Tryz.prog):Dx W:=by
 rw[MakeChecks.laidMetH_plain _ _ _ (by kernel_rfl)] at h
 have h2:=h.tail.tail
 have h4:=h2.tail.tail
 obtain⟨a,s,hv,_⟩:=laid_sentinel h4 gRng gRngType Tryz.underlying153 rowErr Tryz.underlying255 Tryz.underlying257 rfl rfl Tryz.underlying9 cellsErr cellsStr
 exact⟨⟨vars_in hs,Lib.tabIs_of_head gTab gTabType Tryz.underlying227 Tryz.underlying207 cellsU64 cellsTab h2,_,_,hv⟩,Go.Proofs.cell_of_shapedOpen_int (t:=3) (zero:=#[.int .i64 0]) hs nMax (by kernel_rfl) rfl (by kernel_rfl) (by kernel_rfl) Tryz.underlying3⟩
noncomputable def Lu(os:Os):World :=
 { World.doorLaid Tryz.prog 72 os with heap:=(World.doorLaid Tryz.prog 72 os).heap.modify 6 fun
   | .cells _ t frozen => .cells (Lib.firstTab.map fun z=>Value.int .u8 z).toArray t frozen
   | o=>o }
theorem Lz(os:Os)(args:Array Value):laidMet Tryz.prog Rows.showPatternsRow.laid ((Lu os).forCall (fun _ _=>0) ⟨#[],args,[]⟩).memory :=
 laidMet_of_run' 8 (by kernel_rfl) (by kernel_rfl)
end
section
attribute [local go_sem ↓] Go.wp_at_zero Go.wp_at_succ
theorem PR.det{s:LB}{x x':Ab}{er er' a a':Int}(h:PR s x er a)(h':PR s x' er' a'):x'=x∧er'=er∧a'=a:=by
 have key:∀ {ts ts':List Tok} {x x':Ab} {st st':St} {t t':Tok},Da s = .ok ts→Run ts (body .seq) ⟨0,true⟩ (.e x) st→ts[st.i]?=some t→Da s = .ok ts'→Run ts' (body .seq) ⟨0,true⟩ (.e x') st'→ts'[st'.i]?=some t'→x'=x∧st'=st∧t'=t:=by
  intro ts ts' x x' st st' t t' hl hr ht hl' hr' ht';rw[hl] at hl';cases hl';obtain⟨e1,e2⟩:=hr.det hr';cases e1;cases e2;rw[ht] at ht';cases ht';exact⟨rfl,rfl,rfl⟩
 have bad:∀ {st:St} {t:Tok},(st.ok=false∨t.k≠0)→st.ok=true→t.k=0→False:=fun h h1 h2=>h.elim (fun h=>by rw[h] at h1;cases h1) (fun h=>h h2)
 cases h with
 | lexErr h =>
  cases h' with
  | lexErr h'=>rw[h] at h';cases h';exact⟨rfl,rfl,rfl⟩
  | syn hl=>rw[h] at hl;cases hl
  | many hl=>rw[h] at hl;cases hl
  | deep hl=>rw[h] at hl;cases hl
  | ok hl=>rw[h] at hl;cases hl
 | syn hl hr ht hbad =>
  cases h' with
  | lexErr h'=>rw[hl] at h';cases h'
  | syn hl' hr' ht' hbad'=>obtain⟨_,_,rfl⟩:=key hl hr ht hl' hr' ht';exact⟨rfl,rfl,rfl⟩
  | many hl' hr' ht' hok' hend'=>obtain⟨_,rfl,rfl⟩:=key hl hr ht hl' hr' ht';exact(bad hbad hok' hend').elim
  | deep hl' hr' ht' hok' hend'=>obtain⟨_,rfl,rfl⟩:=key hl hr ht hl' hr' ht';exact(bad hbad hok' hend').elim
  | ok hl' hr' ht' hok' hend'=>obtain⟨_,rfl,rfl⟩:=key hl hr ht hl' hr' ht';exact(bad hbad hok' hend').elim
 | many hl hr ht hok hend hm =>
  cases h' with
  | lexErr h'=>rw[hl] at h';cases h'
  | syn hl' hr' ht' hbad'=>obtain⟨_,rfl,rfl⟩:=key hl hr ht hl' hr' ht';exact(bad hbad' hok hend).elim
  | many hl' hr' ht' hok' hend' hm'=>exact⟨rfl,rfl,rfl⟩
  | deep hl' hr' ht' hok' hend' hm'=>obtain⟨rfl,_,_⟩:=key hl hr ht hl' hr' ht';omega
  | ok hl' hr' ht' hok' hend' hm'=>obtain⟨rfl,_,_⟩:=key hl hr ht hl' hr' ht';omega
 | deep hl hr ht hok hend hm hd =>
  cases h' with
  | lexErr h'=>rw[hl] at h';cases h'
  | syn hl' hr' ht' hbad'=>obtain⟨_,rfl,rfl⟩:=key hl hr ht hl' hr' ht';exact(bad hbad' hok hend).elim
  | many hl' hr' ht' hok' hend' hm'=>obtain⟨rfl,_,_⟩:=key hl hr ht hl' hr' ht';omega
  | deep hl' hr' ht' hok' hend' hm' hd'=>obtain⟨rfl,_,_⟩:=key hl hr ht hl' hr' ht';rw[hd] at hd';cases hd';exact⟨rfl,rfl,rfl⟩
  | ok hl' hr' ht' hok' hend' hm' hd'=>obtain⟨rfl,_,_⟩:=key hl hr ht hl' hr' ht';rw[hd] at hd';cases hd'
 | ok hl hr ht hok hend hm hd =>
  cases h' with
  | lexErr h'=>rw[hl] at h';cases h'
  | syn hl' hr' ht' hbad'=>obtain⟨_,rfl,rfl⟩:=key hl hr ht hl' hr' ht';exact(bad hbad' hok hend).elim
  | many hl' hr' ht' hok' hend' hm'=>obtain⟨rfl,_,_⟩:=key hl hr ht hl' hr' ht';omega
  | deep hl' hr' ht' hok' hend' hm' hd'=>obtain⟨rfl,_,_⟩:=key hl hr ht hl' hr' ht';rw[hd] at hd';cases hd'
  | ok hl' hr' ht' hok' hend' hm' hd'=>obtain⟨rfl,_,_⟩:=key hl hr ht hl' hr' ht';exact⟨rfl,rfl,rfl⟩
def varE(a:Int)(nm:LB):Ab:=.mk 1 a nm 0 [] [] [] []
end
theorem Aj.fr{w w':World}{x:Ab}{cs:List Value}(h:Aj w (fun b=>b<w.heap.size) x cs)(f:Fr [] w w'):Aj w' (fun b=>b<w'.heap.size) x cs :=
 h.keep (Sh.of_fr f (fun b hb _=>⟨by have:=f.size;omega,fun x=>by cases x⟩))
section
attribute [local go_sem ↓] Go.wp_at_zero Go.wp_at_succ
def ptC(p:Int×Nat):List Value:=[vI p.1,vI (p.2:Int)]
def S6(l:List (Int×Nat)):List Value:=l.flatMap ptC
theorem ptsC_app(l m:List (Int×Nat)):S6 (l++m)=S6 l++S6 m:=by simp[S6]
def Ko(B:Nat)(v:Value)(l:List (Int×Nat))(w:World):Prop:=w.ownsRow 0 125 2 v l.length (S6 l)∧∀ g,v.ownBlock=some g→B≤g
theorem Ko.fr{B:Nat}{v:Value}{l:List (Int×Nat)}{w w':World}(h:Ko B v l w)(hf:Fr [] w w'):Ko B v l w':=⟨I7 h.1 hf (fun _ _ h=>by cases h),h.2⟩
theorem Ko.nil_(B:Nat)(w:World):Ko B (vZ) [] w:=⟨⟨by simp[S6],.inl ⟨rfl,rfl⟩⟩,fun g hg=>by simp[Value.ownBlock] at hg⟩
theorem Ko.form{B:Nat}{v:Value}{l:List (Int×Nat)}{w:World}(h:Ko B v l w):(v=vZ∧l=[])∨∃ g c,v = .slice (some ⟨g,0,none⟩) l.length c∧B≤g∧g<w.heap.size∧∀ (j:Nat)(u:Value),(S6 l)[j]?=some u→w.cell? ((⟨g,0,none⟩:Addr).add j)=some u:=by
 rcases h.1.2 with⟨hv,hn⟩| ⟨g,cap,cur,hv,_,hg,_⟩
 ·exact .inl ⟨hv,List.eq_nil_of_length_eq_zero hn⟩
 ·subst hv;exact .inr ⟨g,cap,rfl,h.2 g rfl,(Array.getElem?_eq_some_iff.1 hg).1,fun j u hj=>h.1.cells (g:=g) rfl j u hj⟩
theorem Ko.app{B:Nat}{v v':Value}{l m:List (Int×Nat)}{w w':World}(h:Ko B v l w)(hb:B≤w.heap.size)(hown:w'.ownsRow 0 125 2 v' (l.length+m.length) (S6 l++S6 m))(hg:w.grownBy w' v.ownBlock)(hfp:Sa v v' w.heap.size):
  Ko B v' (l++m) w'∧(∀ w0:World,Fr [] w0 w→w0.heap.size≤B→Fr [] w0 w')∧∀ (k:Nat) (o:Obj),k<B→w.heap[k]?=some o→w'.heap[k]?=some o:=by
 refine⟨⟨by rw[La',ptsC_app];exact hown,fun g hg'=>(hfp g hg').elim (fun h1=>h.2 g h1) (fun h1=>by omega)⟩,fun w0 hf h0=>hf.append hg (fun g hg' => .inr (by have:=h.2 g hg';omega)),fun k o hk ho=>?_⟩;have h1:=hg.block k (Aa ho) (fun e=>by have:=h.2 k e.symm;omega);exact h1.trans ho
end
abbrev Sp:=Int×List UInt8×Int
def stR:Except (Int×Nat) (List Tok)→Option (List Sp)
 | .error _=>none
 | .ok ts=>some (ts.map Lr)
theorem stR_shift(d:Nat)(r:Except (Int×Nat) (List Tok)):stR (Xu d r)=stR r:=by
 cases r with
 | error e=>rfl
 | ok ts=>simp[stR,Xu,Lr,shiftT]
def At(l:LB):Option (List Sp):=stR (E1 l.length 0 l)
theorem Yt{f:Nat}(a:Nat){l:LB}(hf:l.length≤f):stR (E1 f a l)=At l:=by
 have h:=Lf a f 0 l;rw[Nat.zero_add] at h;rw[h,stR_shift,J8 l.length f l.length 0 l (Nr' _) hf (Nr' _)];rfl
theorem Po{c:UInt8}(l:LB)(h:D3 c=true):At (c::l)=At l:=by
 unfold At;rw[Lc',Hs _ _ _ h,Yt 1 (Nr' _)];rfl
theorem B2{c:UInt8}{r:LB}{k:Int}{t:LB}{n:Int}{m:Nat}(hc:D3 c=false)(ht:tok (c::r)= .ok (k,t,n,m)):At (c::r)=(At ((c::r).drop m)).map ((k,t,n):: ·):=by
 have hm:=Ig ht;rw[Lc'] at hm;have key:=Yt (f:=r.length) (0+m) (l:=(c::r).drop m) (by rw[List.length_drop,Lc'];omega);rw[← key];unfold At;rw[Lc',Jn _ _ _ hc,ht];simp only
 cases E1 r.length (0+m) ((c::r).drop m)with
 | error e=>rfl
 | ok l=>rfl
theorem Run.mayN{ts:List Tok}{i:Nat}{ok:Bool}{t:Tok}(ht:ts[i]?=some t){s:LB}(hb:isB t ok [s]=false){k:Bool→Cmd}{r:Rs}{st':St}(h:Run ts (k false) ⟨i,ok⟩ r st'):Run ts (Cl s k) ⟨i,ok⟩ r st' :=
 .look ht (by simp only;rw[hb,if_neg (by decide)];exact h)
theorem Run.mayY{ts:List Tok}{i:Nat}{ok:Bool}{t:Tok}(ht:ts[i]?=some t){s:LB}(hb:isB t ok [s]=true){k:Bool→Cmd}{r:Rs}{st':St}(h:Run ts (k true) ⟨i+1,ok⟩ r st'):Run ts (Cl s k) ⟨i,ok⟩ r st' :=
 .look ht (by simp only;rw[hb,if_pos rfl];exact .adv h)
theorem Run.mustY{ts:List Tok}{i:Nat}{ok:Bool}{t:Tok}(ht:ts[i]?=some t){s:LB}(hb:isB t ok [s]=true){k:Cmd}{r:Rs}{st':St}(h:Run ts k ⟨i+1,ok⟩ r st'):Run ts (Bv s k) ⟨i,ok⟩ r st' :=
 .look ht (by simp only;rw[hb,if_pos rfl];exact .adv h)
theorem Tu{us:List Tok}{d e a b:Nat}{m m':Int}{x:Ab}{u:Tok}(h0:us[d]?=some ⟨7,a,[40],m⟩)(h1:us[d+1]?=some u)(hu:isB u true [[41]]=false)(hr:Run us (body .seq) ⟨d+1,true⟩ (.e x) ⟨e,true⟩)(h2:us[e]?=some ⟨7,b,[41],m'⟩):
  Run us (body .atom) ⟨d,true⟩ (.e x) ⟨e+1,true⟩:=by
 refine .look h0 ?_;simp only;rw[if_pos (by rfl)];refine .adv ?_;simp only;rw[if_neg (by decide),if_neg (by decide),if_neg (by decide),if_neg (by decide),if_neg (by decide),if_neg (by decide),if_neg (by decide)];refine Run.mayN h1 hu ?_;rw[if_neg (by decide)];exact .callE hr (.mustY h2 (by rfl) .retE)
def L6:Nat→NT
 | 0 => .seq|1 => .item|2 => .or|3 => .and|4 => .cmp|5 => .sum|6 => .prod|_ => .unary
def Mc:Nat→List LB
 | 0=>[[59]] | 1=>[[58,61]] | 2=>[[124,124]] | 3=>[[38,38]] | 4=>[[61],[60]] | 5=>[[43],[45]] | 6=>[[42],[47],[37]] | _=>[]
structure Hb (u:Tok)(l:Nat):Prop where
 dot:isB u true [[46]]=false
 beg:Ci u true=false
 lv:∀ L,l≤L→L<7→isB u true (Mc L)=false
def Open(us:List Tok)(i:Nat):Prop:=∃ a m,us[i]?=some ⟨7,a,[40],m⟩
theorem Jr{us:List Tok}{i:Nat}(h:Open us i){s:LB}(hs:[s].contains [40]=false){k:Bool→Cmd}{r:Rs}{st':St}(hr:Run us (k false) ⟨i,true⟩ r st'):Run us (Cl s k) ⟨i,true⟩ r st':=by
 obtain⟨a,m,h⟩:=h;refine Run.mayN h ?_ hr;show(true&&true&&[s].contains [40])=false;rw[hs];rfl
def mkB(L:Nat)(tx:LB)(a:Int)(x y:Ab):Ab:=match L with
 | 0=>D4 20 a [x,y]
 | 1=>opE 12 a [x,y]
 | 2=>D4 22 a [x,y]
 | 3=>D4 21 a [x,y]
 | _=>opE (A1 tx) a [x,y]
theorem mkB_same(L:Nat)(tx:LB)(a a':Int){x x' y y':Ab}(hx:Bl x x')(hy:Bl y y'):Bl (mkB L tx a x y) (mkB L tx a' x' y'):=by
 have h:=SL.two (R:=Bl) hx hy;unfold mkB;split <;> exact sE0 h
def rOf(L:Nat):Nat:=if L≤3 then L else L+1
theorem join_two{us:List Tok}{i j k:Nat}{x y:Ab}{v u:Tok}(hv:us[j]?=some v)(hu:us[k]?=some u):∀ {L:Nat},L<7→isB v true (Mc L)=true→(5≤L→isB u true (Mc L)=false)→
  (L=1→Open us i)→Run us (body (L6 (L+1))) ⟨i,true⟩ (.e x) ⟨j,true⟩→Run us (body (L6 (rOf L))) ⟨j+1,true⟩ (.e y) ⟨k,true⟩→Run us (body (L6 L)) ⟨i,true⟩ (.e (mkB L v.text v.at' x y)) ⟨k,true⟩
 | 0,_,hb,_,_,hx,hy=>by
  refine .callE hx (.look hv (Run.mayY hv hb ?_))
  rw[if_pos rfl];exact .callE hy .retE
 | 1,_,hb,_,ho,hx,hy=>by
  have ho:=ho rfl;have ho':=ho;obtain⟨a,m,h⟩:=ho';refine .look h (Jr ho (by decide) ?_);rw[if_neg (by decide)];refine .look h ?_;simp only;rw[show isB ⟨7,a,[40],m⟩ true [[102,117,110]]=false by rfl,if_neg (by decide)];refine Jr ho (by decide) ?_;rw[if_neg (by decide)];refine Jr ho (by decide) ?_;rw[if_neg (by decide)];refine Jr ho (by decide) ?_;rw[if_neg (by decide)];refine Jr ho (by decide) ?_;rw[if_neg (by decide)];refine .callE hx (.look hv (Run.mayY hv hb ?_))
  rw[if_pos rfl];exact .callE hy .retE
 | 2,_,hb,_,_,hx,hy=>by
  refine .callE hx (.look hv (Run.mayY hv hb ?_))
  rw[if_pos rfl];exact .callE hy .retE
 | 3,_,hb,_,_,hx,hy=>by
  refine .callE hx (.look hv (Run.mayY hv hb ?_))
  rw[if_pos rfl];exact .callE hy .retE
 | 4,_,hb,_,_,hx,hy=>by
  refine .callE hx (.look hv ?_);simp only;rw[show isB v true [[61],[60]]=true from hb,if_pos rfl]
  exact .adv (.callE hy .retE)
 | 5,_,hb,hn,_,hx,hy=>by
  refine .callE hx (.callE (.look hv ?_) .retE);simp only;rw[show isB v true [[43],[45]]=true from hb,if_pos rfl];refine .adv (.callE hy (.callE (.look hu ?_) .retE));simp only
  rw[show isB u true [[43],[45]]=false from hn (by decide),if_neg (by decide)];exact .retE
 | 6,_,hb,hn,_,hx,hy=>by
  refine .callE hx (.callE (.look hv ?_) .retE);simp only;rw[show isB v true [[42],[47],[37]]=true from hb,if_pos rfl];refine .adv (.callE hy (.callE (.look hu ?_) .retE));simp only
  rw[show isB u true [[42],[47],[37]]=false from hn (by decide),if_neg (by decide)];exact .retE
 | _+7,h,_,_,_,_,_=>by omega
theorem Xy(a:Nat)(n:Int):Hb ⟨7,a,[41],n⟩ 0:=⟨Mp _ _ _ _ (by decide),by rfl,fun L _ h=>Mp _ _ _ _ (by
 match L,h with
 | 0,_=>decide
 | 1,_=>decide
 | 2,_=>decide
 | 3,_=>decide
 | 4,_=>decide
 | 5,_=>decide
 | 6,_=>decide
 | _+7,h=>omega)⟩
def W(s:LB):Sp:=(6,s,0)
def G(s:LB):Sp:=(7,s,0)
def Ej:Bool→List LB→List (List Sp)→List Sp
 | _,[],_=>[]
 | _,_::_,[]=>[]
 | f,x::ls,t::l=>(if f=true then [] else [G [44]])++((1,x,0)::G [61]::(t++Ej false ls l))
def Ex:Bool→List (List Sp×List Sp)→List Sp
 | _,[]=>[]
 | f,(p,t)::l=>(if f=true then [] else [G [124]])++(p++(G [45,62]::(t++Ex false l)))
def Ek:List (List Sp)→List Sp
 | []=>[]
 | t::l=>t++Ek l
def En(n:Int):Sp:=if n=9∨n=10∨13≤n then W (Bx n)else G (Bx n)
def opK(n:Int)(l:List (List Sp)):List Sp :=
 if n=6∨n=9∨n=11 then En n::l.getD 0 []
 else if n≤8∨n=12 then l.getD 0 []++(En n::l.getD 1 [])
 else En n::Ek l
def J7(l:List Sp):List Sp:=(l.drop 1).dropLast
def Bh(k:Int)(nm:LB)(n:Int)(l:List (List Sp))(m:List (List Sp×List Sp)):List Sp :=
 if k=7 then W [102,117,110]::(1,nm,0)::G [45,62]::l.getD 0 []
 else if k=8 then l.getD 0 []++l.getD 1 []
 else if k=9 then W [108,101,116]::(1,nm,0)::G [61]::(l.getD 0 []++(W [105,110]::l.getD 1 []))
 else if k=10 then W [108,101,116]::W [114,101,99]::(1,nm,0)::G [61]::(J7 (l.getD 0 [])++(W [105,110]::l.getD 1 []))
 else if k=11 then W [105,102]::(l.getD 0 []++(W [116,104,101,110]::(l.getD 1 []++(W [101,108,115,101]::l.getD 2 []))))
 else if k=15 then (3,nm,0)::l.getD 0 []
 else if k=16 then W [109,97,116,99,104]::(l.getD 0 []++(W [119,105,116,104]::(Ex true m++[W [101,110,100]])))
 else if k=17 then W [116,114,121]::(l.getD 0 []++(W [119,105,116,104]::(Ex true m++[W [101,110,100]])))
 else if k=18 then W [114,97,105,115,101]::l.getD 0 []
 else if k=20 then l.getD 0 []++(G [59]::l.getD 1 [])
 else if k=21 then l.getD 0 []++(G [38,38]::l.getD 1 [])
 else if k=22 then l.getD 0 []++(G [124,124]::l.getD 1 [])
 else opK n l
def Bp(k:Int)(nm:LB)(n:Int)(s:LB)(ls:List LB)(l:List (List Sp))(m:List (List Sp×List Sp)):List Sp :=
 if k=1 then [(1,nm,0)]
 else if k=6 then [(2,nm,0)]
 else if k=2 then [(4,[],n)]
 else if k=3 then [(5,s,0)]
 else if k=4 then [W (Fs n)]
 else if k=5 then [G [40],G [41]]
 else if k=14 then l.getD 0 []++[G [46],(1,nm,0)]
 else if k=12 then G [123]::(Ej true ls l++[G [125]])
 else if k=13 then G [123]::(l.getD 0 []++(W [119,105,116,104]::(1,nm,0)::G [61]::(l.getD 1 []++[G [125]])))
 else G [40]::(Bh k nm n l m++[G [41]])
def Jt(k:Int)(nm:LB)(n:Int)(s:LB)(ls:List LB)(l:List (List Sp)):List Sp :=
 if k=1 then [(1,[95],0)]
 else if k=2 then [(1,nm,0)]
 else if k=7 then [(2,nm,0)]
 else if k=3 then (if n<0 then [G [45],(4,[],-n)] else [(4,[],n)])
 else if k=4 then [(5,s,0)]
 else if k=5 then [W (Fs n)]
 else if k=6 then [G [40],G [41]]
 else if k=8 then G [40]::(3,nm,0)::(l.getD 0 []++[G [41]])
 else G [123]::(Ej true ls l++[G [125]])
mutual
def tkP:Ak→List Sp
 | .mk k _ nm n s ls args=>Jt k nm n s ls (Fm args)
def Fm:List Ak→List (List Sp)
 | []=>[]
 | x::l=>tkP x::Fm l
end
mutual
def tkE:Ab→List Sp
 | .mk k _ nm n s ls args arms=>Bp k nm n s ls (Br args) (E9 arms)
def Br:List Ab→List (List Sp)
 | []=>[]
 | x::l=>tkE x::Br l
def E9:List (Ak×Ab)→List (List Sp×List Sp)
 | []=>[]
 | x::l=>tkA x::E9 l
def tkA:Ak×Ab→List Sp×List Sp
 | (p,x)=>(tkP p,tkE x)
end
def Sep(r:LB):Prop:=∀ c t,r=c::t→Cq c=false
theorem Sep.nil_:Sep []:=fun c t h=>by cases h
theorem Sep.cons{c:UInt8}{t:LB}(h:Cq c=false):Sep (c::t):=fun d u e=>by cases e;exact h
theorem Iy{r:LB}(hr:Sep r):∀ {l:LB},l.all Cq=true→Cc (l++r)=l
 | [],_=>by
  cases r with
  | nil=>rfl
  | cons c t=>unfold Cc;rw[List.nil_append,List.takeWhile_cons_of_neg (by rw[hr c t rfl];decide)]
 | c::l,h=>by
  rw[List.all_cons,Ba'] at h;rw[Lp',Gm _ h.1,Iy hr h.2]
theorem Su{nm:LB}(h:As nm=true):∃ c r,nm=c::r∧Dl c=true∧nm.all Cq=true∧Df nm=false:=by
 cases nm with
 | nil=>cases h
 | cons c r =>
  simp only[As,Ba',Bool.not_eq_true'] at h;exact⟨c,r,rfl,h.1.1,h.1.2,h.2⟩
theorem Nw{nm:LB}(h:Dm nm=true):∃ c r,nm=c::r∧Cf c=true∧nm.all Cq=true:=by
 cases nm with
 | nil=>cases h
 | cons c r =>
  simp only[Dm,As,Ba',List.all_cons] at h;exact⟨c,r,rfl,h.1,by rw[List.all_cons,Ba'];exact⟨h.2.1.2.2.1,h.2.1.2.2.2⟩⟩
theorem Nt{c:UInt8}(h:Dl c=true):D3 c=false:=by
 rw[Bool.eq_false_iff];intro hb;rcases Eu hb with rfl|rfl <;> revert h <;> decide
theorem Ur{c:UInt8}(h:Cf c=true):D3 c=false:=by
 rw[Bool.eq_false_iff];intro hb;rcases Eu hb with rfl|rfl <;> revert h <;> decide
theorem Zq{c:UInt8}(h:Co c=true):D3 c=false:=by
 rw[Bool.eq_false_iff];intro hb;rcases Eu hb with rfl|rfl <;> revert h <;> decide
theorem Vv{c:UInt8}(h:Cf c=true):Dl c=false:=by
 unfold Cf at h;simp only[Ba',decide_eq_true_eq] at h;unfold Dl;rw[Bool.or_eq_false_iff,Bool.and_eq_false_iff];refine⟨.inl (by rw[decide_eq_false_iff_not];omega),bN.2 (fun e=>by subst e;exact absurd h (by decide))⟩
theorem small_dig{c:UInt8}(h:Co c=true):Dl c=false∧Cf c=false∧c≠35:=by
 have h:=(Ft c).1 h;refine⟨?_,?_,fun e=>by subst e;exact absurd h (by decide)⟩
 ·unfold Dl;rw[Bool.or_eq_false_iff,Bool.and_eq_false_iff];refine⟨.inl (by rw[decide_eq_false_iff_not];omega),bN.2 (fun e=>by subst e;exact absurd h (by decide))⟩
 ·unfold Cf;rw[Bool.and_eq_false_iff];exact .inl (by rw[decide_eq_false_iff_not];omega)
theorem Fu{nm:LB}(h:As nm=true){r:LB}(hr:Sep r):At (nm++r)=(At r).map ((1,nm,0):: ·):=by
 obtain⟨c,t,rfl,hs,hb,hw⟩:=Su h;have e:Cc (c::(t++r))=c::t:=Iy hr hb
 have ht:tok (c::(t++r))= .ok (1,c::t,0,(c::t).length):=by
  rw[tok,if_pos hs,e,hw];rfl
 rw[Lp',B2 (Nt hs) ht,← Lp',List.drop_left]
theorem Bu{nm:LB}(h:Df nm=true)(hb:nm.all Cq=true)(hs:Dl (nm.headD 0)=true){r:LB}(hr:Sep r):At (nm++r)=(At r).map (W nm :: ·):=by
 obtain⟨c,t,rfl⟩:∃ c t,nm=c::t:=by
  cases nm with
  | nil=>exact absurd hs (by decide)
  | cons c t=>exact⟨c,t,rfl⟩
 have hs:Dl c=true:=hs;have e:Cc (c::(t++r))=c::t:=Iy hr hb
 have ht:tok (c::(t++r))= .ok (6,c::t,0,(c::t).length):=by
  rw[tok,if_pos hs,e,h];rfl
 rw[Lp',B2 (Nt hs) ht,← Lp',List.drop_left];rfl
theorem W5{nm:LB}(h:Dm nm=true){r:LB}(hr:Sep r):At (nm++r)=(At r).map ((2,nm,0):: ·):=by
 obtain⟨c,t,rfl,hs,hb⟩:=Nw h;have e:Cc (c::(t++r))=c::t:=Iy hr hb
 have ht:tok (c::(t++r))= .ok (2,c::t,0,(c::t).length):=by
  rw[tok,if_neg (by rw[Vv hs];decide),if_pos hs,e]
 rw[Lp',B2 (Ur hs) ht,← Lp',List.drop_left]
theorem U4{nm:LB}(h:Dm nm=true){r:LB}(hr:Sep r):At (35::(nm++r))=(At r).map ((3,nm,0):: ·):=by
 obtain⟨c,t,rfl,hs,hb⟩:=Nw h;have e:Cc (c::t++r)=c::t:=Iy hr hb
 have ht:tok (35::(c::t++r))= .ok (3,c::t,0,1+(c::t).length):=by
  rw[tok,if_neg (by decide),if_neg (by decide),if_pos ⟨rfl,by rw[Lp'];simpa using hs⟩,e]
 rw[B2 (by rfl) ht,Nat.add_comm 1,List.drop_succ_cons,List.drop_left]
theorem Re:∀ m n:Nat,n≤m→(Lib.decDigits n).all Co=true∧Ff 0 (Lib.decDigits n)=n∧Lib.decDigits n≠[]∧(1≤n→(Lib.decDigits n).head?≠some 48)∧(n<10→(Lib.decDigits n).length=1):=by
 intro m
 induction m with
 | zero =>
  intro n hn;have:n=0:=by omega
  subst this;rw[Lib.decDigits,dif_pos (by omega)]
  exact⟨by decide,by decide,by decide,fun h=>absurd h (by decide),fun _=>rfl⟩
 | succ m ih =>
  intro n hn;rw[Lib.decDigits];by_cases h:n<10
  ·rw[dif_pos h];have hx:(UInt8.ofNat (48+n)).toNat=48+n:=by rw[UInt8.toNat_ofNat'];omega
   refine⟨?_,?_,by simp,?_,fun _=>rfl⟩
   ·rw[List.all_cons,List.all_nil,Bool.and_true,Ft,hx];omega
   ·show 0 * 10+((UInt8.ofNat (48+n)).toNat-48)=n;rw[hx];omega
   ·intro h1 h2;simp only[List.head?_cons,Option.some.injEq] at h2;have:=congrArg UInt8.toNat h2;rw[hx] at this;have h9:(48:UInt8).toNat=48:=rfl;omega
  ·rw[dif_neg h];obtain⟨i1,i2,i3,i4,_⟩:=ih (n / 10) (by omega);have hx:(UInt8.ofNat (48+n % 10)).toNat=48+n % 10:=by rw[UInt8.toNat_ofNat'];omega
   refine⟨?_,?_,by simp,?_,fun h2=>absurd h2 h⟩
   ·rw[List.all_append,i1,List.all_cons,List.all_nil,Bool.and_true,Bool.true_and,Ft,hx];omega
   ·rw[Qo,i2,hx];omega
   ·intro _ h2;rw[List.head?_append] at h2
    cases hd:Lib.decDigits (n / 10)with
    | nil=>exact i3 hd
    | cons y r =>
     have:=i4 (by omega);rw[hd] at this h2;simp at this h2;exact this h2
theorem Uv{n:Int}(h:0≤n):Lib.itoa n=Lib.decDigits n.toNat:=by unfold Lib.itoa;rw[if_neg (by omega)]
theorem itoa_num{n:Int}(h:0≤n):Fi (Lib.itoa n)=true∧(Ff 0 (Lib.itoa n):Int)=n:=by
 rw[Uv h];obtain⟨i1,i2,i3,i4,i5⟩:=Re n.toNat n.toNat (Nr' _);refine⟨?_,by rw[i2];omega⟩;unfold Fi;rw[i1];have e:(Lib.decDigits n.toNat).isEmpty=false:=by simpa using i3
 rw[e];by_cases h0:1≤n.toNat
 ·have:((Lib.decDigits n.toNat).head?==some 48)=false:=by rw[bN];exact i4 h0
  rw[this];rfl
 ·have:=i5 (by omega);rw[this];simp
theorem read_itoa{n:Int}(h:0≤n)(h1:n≤4611686018427387903):C8 (Lib.itoa n)=n∧Er (Lib.itoa n)=0:=by
 obtain⟨e1,e2⟩:=itoa_num h;unfold C8 Er;rw[e1,if_pos ⟨rfl,by omega⟩,if_pos rfl,if_pos (by omega)];exact⟨e2,rfl⟩
theorem Uu(n:Int)(h0:0≤n):(Lib.itoa n).all Co=true∧Lib.itoa n≠[]:=by
 rw[Uv h0];obtain⟨i1,_,i3,_⟩:=Re n.toNat n.toNat (Nr' _);exact⟨i1,i3⟩
theorem Xs(n:Int)(h0:0≤n)(h1:n≤Ea):Er (Lib.itoa n)=0∧C8 (Lib.itoa n)=n:=by
 obtain⟨a,b⟩:=read_itoa h0 h1;exact⟨b,a⟩
theorem lexS_int{n:Int}(h0:0≤n)(h1:n≤Ea){r:LB}(hr:Sep r):At (Lib.itoa n++r)=(At r).map ((4,[],n):: ·):=by
 obtain⟨hd,hne⟩:=Uu n h0;obtain⟨e0,e1⟩:=Xs n h0 h1
 generalize Lib.itoa n=l at *
 obtain⟨c,t,rfl⟩:∃ c t,l=c::t:=by
  cases l with
  | nil=>exact absurd rfl hne
  | cons c t=>exact⟨c,t,rfl⟩
 have hc:Co c=true:=by rw[List.all_cons,Ba'] at hd;exact hd.1
 have hb:(c::t).all Cq=true:=List.all_eq_true.2 fun x hx=>Tz (List.all_eq_true.1 hd x hx)
 have e:Cc (c::(t++r))=c::t:=Iy hr hb;obtain⟨d1,d2,d3⟩:=small_dig hc
 have ht:tok (c::(t++r))= .ok (4,[],n,(c::t).length):=by
  rw[tok,if_neg (by rw[d1];decide),if_neg (by rw[d2];decide),if_neg (fun x=>d3 x.1),if_pos hc,e,if_pos e0,e1]
 rw[Lp',B2 (Zq hc) ht,← Lp',List.drop_left]
theorem Yh(n:Nat)(h:n<16):Iq n≠92∧Iq n≠34:=by
 have:∀ n,n<16→Iq n≠92∧Iq n≠34:=by decide
 exact this n h
theorem qlen_quo(c:UInt8)(r:LB):Fx (quo c++r)=(Fx r).map (·+(quo c).length):=by
 unfold quo;split
 ·rw[show [92,34]++r=92::34::r from rfl,Ju];rfl
 ·rename_i h34
  split
  ·rw[show [92,92]++r=92::92::r from rfl,Ju];rfl
  ·rename_i h92
   split
   ·rw[show [92,110]++r=92::110::r from rfl,Ju];rfl
   ·split
    ·rw[show [c]++r=c::r from rfl,I8 c r h92 h34];rfl
    ·have hc:c.toNat<256:=c.toNat_lt;obtain⟨a1,a2⟩:=Yh (c.toNat / 16) (by omega);obtain⟨b1,b2⟩:=Yh (c.toNat % 16) (by omega);rw[show [92,120,Iq (c.toNat / 16),Iq (c.toNat % 16)]++r=92::120::Iq (c.toNat / 16)::Iq (c.toNat % 16)::r from rfl,Ju,I8 _ _ a1 a2,I8 _ _ b1 b2];cases Fx r <;> rfl
theorem Xp(s r:LB):Fx (Cg s++34::r)=some ((Cg s).length+1):=by
 induction s with
 | nil=>exact Vj r
 | cons c s ih =>
  have e:Cg (c::s)=quo c++Cg s:=by simp[Cg]
  rw[e,Ls',qlen_quo,ih,Option.map_some,La']
  congr 1
  omega
theorem lexS_str(s r:LB):At (C7 s++r)=(At r).map ((5,s,0):: ·):=by
 have e:C7 s++r=34::(Cg s++34::r):=by simp[C7]
 have et:(34::(Cg s++34::r)).take (1+((Cg s).length+1))=C7 s:=by
  rw[Nat.add_comm 1,List.take_succ_cons]
  have:(Cg s++34::r).take ((Cg s).length+1)=Cg s++[34]:=by
   rw[List.take_length_add_append];rfl
  rw[this];rfl
 have ht:tok (34::(Cg s++34::r))= .ok (5,s,0,1+((Cg s).length+1)):=by
  rw[tok,if_neg (by decide),if_neg (by decide),if_neg (fun x=>absurd x.1 (by decide)),if_neg (by decide),if_pos rfl,Xp];simp only[et,R2]
 rw[e,B2 (by rfl) ht,Nat.add_comm 1,List.drop_succ_cons,← List.drop_drop,List.drop_left];rfl
theorem Ef(r:LB):At (40::r)=(At r).map (G [40] :: ·):=B2 (by rfl) (show tok (40::r)= .ok (7,[40],0,1) by rfl)
theorem Eg(r:LB):At (41::r)=(At r).map (G [41] :: ·):=B2 (by rfl) (show tok (41::r)= .ok (7,[41],0,1) by rfl)
theorem U2(r:LB):At (123::r)=(At r).map (G [123] :: ·):=B2 (by rfl) (show tok (123::r)= .ok (7,[123],0,1) by rfl)
theorem U3(r:LB):At (125::r)=(At r).map (G [125] :: ·):=B2 (by rfl) (show tok (125::r)= .ok (7,[125],0,1) by rfl)
theorem L0(r:LB):At (61::r)=(At r).map (G [61] :: ·):=B2 (by rfl) (show tok (61::r)= .ok (7,[61],0,1) by rfl)
theorem lexG_59(r:LB):At (59::r)=(At r).map (G [59] :: ·):=B2 (by rfl) (show tok (59::r)= .ok (7,[59],0,1) by rfl)
theorem lexG_44(r:LB):At (44::r)=(At r).map (G [44] :: ·):=B2 (by rfl) (show tok (44::r)= .ok (7,[44],0,1) by rfl)
theorem lexG_46(r:LB):At (46::r)=(At r).map (G [46] :: ·):=B2 (by rfl) (show tok (46::r)= .ok (7,[46],0,1) by rfl)
theorem lexG_43(r:LB):At (43::r)=(At r).map (G [43] :: ·):=B2 (by rfl) (show tok (43::r)= .ok (7,[43],0,1) by rfl)
theorem lexG_42(r:LB):At (42::r)=(At r).map (G [42] :: ·):=B2 (by rfl) (show tok (42::r)= .ok (7,[42],0,1) by rfl)
theorem lexG_47(r:LB):At (47::r)=(At r).map (G [47] :: ·):=B2 (by rfl) (show tok (47::r)= .ok (7,[47],0,1) by rfl)
theorem lexG_37(r:LB):At (37::r)=(At r).map (G [37] :: ·):=B2 (by rfl) (show tok (37::r)= .ok (7,[37],0,1) by rfl)
theorem lexG_60(r:LB):At (60::r)=(At r).map (G [60] :: ·):=B2 (by rfl) (show tok (60::r)= .ok (7,[60],0,1) by rfl)
theorem lexG_33(r:LB):At (33::r)=(At r).map (G [33] :: ·):=B2 (by rfl) (show tok (33::r)= .ok (7,[33],0,1) by rfl)
theorem Le(r:LB):At (45::62::r)=(At r).map (G [45,62] :: ·):=B2 (by rfl) (show tok (45::62::r)= .ok (7,[45,62],0,2) by rfl)
theorem W4(r:LB):At (58::61::r)=(At r).map (G [58,61] :: ·):=B2 (by rfl) (show tok (58::61::r)= .ok (7,[58,61],0,2) by rfl)
theorem W3(r:LB):At (38::38::r)=(At r).map (G [38,38] :: ·):=B2 (by rfl) (show tok (38::38::r)= .ok (7,[38,38],0,2) by rfl)
theorem Sx(r:LB):At (124::124::r)=(At r).map (G [124,124] :: ·):=B2 (by rfl) (show tok (124::124::r)= .ok (7,[124,124],0,2) by rfl)
theorem Sy(c:UInt8)(h:c≠62)(r:LB):At (45::c::r)=(At (c::r)).map (G [45] :: ·):=by
 have ht:tok (45::c::r)= .ok (7,[45],0,1):=by
  rw[tok,if_neg (by decide),if_neg (by decide),if_neg (fun x=>absurd x.1 (by decide)),if_neg (by decide),if_neg (by decide)]
  have:Bf.find? (fun x=>x.isPrefixOf (45::c::r))=some [45]:=by
   have h2:(62==c)=false:=bN.2 (fun e=>h e.symm);simp[Bf,List.find?_cons,List.isPrefixOf,h2]
  rw[this];rfl
 exact B2 (by rfl) ht
theorem lexG_124(c:UInt8)(h:c≠124)(r:LB):At (124::c::r)=(At (c::r)).map (G [124] :: ·):=by
 have ht:tok (124::c::r)= .ok (7,[124],0,1):=by
  rw[tok,if_neg (by decide),if_neg (by decide),if_neg (fun x=>absurd x.1 (by decide)),if_neg (by decide),if_neg (by decide)]
  have:Bf.find? (fun x=>x.isPrefixOf (124::c::r))=some [124]:=by
   have h2:(124==c)=false:=bN.2 (fun e=>h e.symm);simp[Bf,List.find?_cons,List.isPrefixOf,h2]
  rw[this];rfl
 exact B2 (by rfl) ht
def sgs:List LB:=[[59],[58,61],[124,124],[38,38],[61],[60],[43],[45],[42],[47],[37]]
def lvs:List Nat:=[0,1,2,3,4,4,5,5,6,6,6]
structure Sg (s:LB)(l:Nat):Prop where
 le:l≤6
 yes:∀ a n,isB ⟨7,a,s,n⟩ true (Mc l)=true
 no:∀ a n L,L<7→L≠l→isB ⟨7,a,s,n⟩ true (Mc L)=false
 dot:∀ a n,isB ⟨7,a,s,n⟩ true [[46]]=false
 beg:∀ a n,Ci ⟨7,a,s,n⟩ true=false
 lex:∀ r,At (s++32::r)=(At r).map ((7,s,0):: ·)
theorem Sg.stop{s:LB}{l:Nat}(h:Sg s l)(a:Nat)(n:Int):Hb ⟨7,a,s,n⟩ (l+1):=⟨h.dot a n,h.beg a n,fun L hL h7=>h.no a n L h7 (by omega)⟩
theorem Jp{s:LB}{l:Nat}(h:∀ L,L<7→L≠l→(Mc L).contains s=false)(a:Nat)(n:Int)(L:Nat)(h7:L<7)(hn:L≠l):isB ⟨7,a,s,n⟩ true (Mc L)=false:=by
 show(true&&true&&(Mc L).contains s)=false;rw[h L h7 hn];rfl
theorem Ht{s:LB}(hs:∃ c r,s=c::r∧D3 c=false)(ht:∀ r,tok (s++32::r)= .ok (7,s,0,s.length))(r:LB):At (s++32::r)=(At r).map ((7,s,0):: ·):=by
 have h:=ht r;obtain⟨c,q,rfl,hc⟩:=hs;rw[Lp'] at h ⊢;rw[B2 hc h,← Lp',List.drop_left,Po r (by rfl)]
theorem H1:∀ i,i<11→Sg (sgs.getD i []) (lvs.getD i 0):=by
 have f7:∀ (s:LB) (l:Nat),(∀ L ∈ [0,1,2,3,4,5,6],L≠l→(Mc L).contains s=false)→∀ L,L<7→L≠l→(Mc L).contains s=false:=fun s l h L hL hn=>by
  match L,hL,hn with
  | 0,_,hn=>exact h 0 (by simp) hn
  | 1,_,hn=>exact h 1 (by simp) hn
  | 2,_,hn=>exact h 2 (by simp) hn
  | 3,_,hn=>exact h 3 (by simp) hn
  | 4,_,hn=>exact h 4 (by simp) hn
  | 5,_,hn=>exact h 5 (by simp) hn
  | 6,_,hn=>exact h 6 (by simp) hn
  | _+7,h,_=>omega
 intro i hi
 match i,hi with
 | 0,_=>exact⟨by decide,fun _ _=>by rfl,Jp (f7 [59] 0 (by decide)),fun _ _=>by rfl,fun _ _=>by rfl,Ht ⟨59,[],rfl,by rfl⟩ (fun _=>by rfl)⟩
 | 1,_=>exact⟨by decide,fun _ _=>by rfl,Jp (f7 [58,61] 1 (by decide)),fun _ _=>by rfl,fun _ _=>by rfl,Ht ⟨58,[61],rfl,by rfl⟩ (fun _=>by rfl)⟩
 | 2,_=>exact⟨by decide,fun _ _=>by rfl,Jp (f7 [124,124] 2 (by decide)),fun _ _=>by rfl,fun _ _=>by rfl,Ht ⟨124,[124],rfl,by rfl⟩ (fun _=>by rfl)⟩
 | 3,_=>exact⟨by decide,fun _ _=>by rfl,Jp (f7 [38,38] 3 (by decide)),fun _ _=>by rfl,fun _ _=>by rfl,Ht ⟨38,[38],rfl,by rfl⟩ (fun _=>by rfl)⟩
 | 4,_=>exact⟨by decide,fun _ _=>by rfl,Jp (f7 [61] 4 (by decide)),fun _ _=>by rfl,fun _ _=>by rfl,Ht ⟨61,[],rfl,by rfl⟩ (fun _=>by rfl)⟩
 | 5,_=>exact⟨by decide,fun _ _=>by rfl,Jp (f7 [60] 4 (by decide)),fun _ _=>by rfl,fun _ _=>by rfl,Ht ⟨60,[],rfl,by rfl⟩ (fun _=>by rfl)⟩
 | 6,_=>exact⟨by decide,fun _ _=>by rfl,Jp (f7 [43] 5 (by decide)),fun _ _=>by rfl,fun _ _=>by rfl,Ht ⟨43,[],rfl,by rfl⟩ (fun _=>by rfl)⟩
 | 7,_=>exact⟨by decide,fun _ _=>by rfl,Jp (f7 [45] 5 (by decide)),fun _ _=>by rfl,fun _ _=>by rfl,Ht ⟨45,[],rfl,by rfl⟩ (fun _=>by rfl)⟩
 | 8,_=>exact⟨by decide,fun _ _=>by rfl,Jp (f7 [42] 6 (by decide)),fun _ _=>by rfl,fun _ _=>by rfl,Ht ⟨42,[],rfl,by rfl⟩ (fun _=>by rfl)⟩
 | 9,_=>exact⟨by decide,fun _ _=>by rfl,Jp (f7 [47] 6 (by decide)),fun _ _=>by rfl,fun _ _=>by rfl,Ht ⟨47,[],rfl,by rfl⟩ (fun _=>by rfl)⟩
 | 10,_=>exact⟨by decide,fun _ _=>by rfl,Jp (f7 [37] 6 (by decide)),fun _ _=>by rfl,fun _ _=>by rfl,Ht ⟨37,[],rfl,by rfl⟩ (fun _=>by rfl)⟩
 | _+11,h=>omega
section
variable {us:List Tok} {La Lb Lc:List Sp} {xa xb xc:Ab} {s1 s2:LB} {l1 l2:Nat}
theorem rOf_le{l:Nat}(h:l≤6):rOf l≤7∧l≤rOf l∧rOf l≤l+1:=by unfold rOf;split <;> omega
end
theorem D8.symm{x y:Ak}(h:D8 x y):D8 y x:=by
 induction h with
 | mk hl h ih=>exact .mk hl.symm (fun i x y hx hy=>ih i y x hy hx)
theorem Bl.symm{x y:Ab}(h:Bl x y):Bl y x:=by
 induction h with
 | mk hl h hl2 hp hx ih ih2=>exact .mk hl.symm (fun i x y hx hy=>ih i y x hy hx) hl2.symm (fun i p p' x y h1 h2=>(hp i p' p y x h2 h1).symm) (fun i p p' x y h1 h2=>ih2 i p' p y x h2 h1)
theorem mid{α:Type}{l m:List α}(h:l.length=m.length){i:Nat}{x:α}(hx:l[i]?=some x):∃ y,m[i]?=some y :=
 ⟨m[i]'(by have:=(List.getElem?_eq_some_iff.1 hx).1;omega),Lg' _⟩
theorem D8.trans{x y:Ak}(h:D8 x y):∀ {z:Ak},D8 y z→D8 x z:=by
 induction h with
 | mk hl h ih =>
  intro z hz
  cases hz with
  | mk hl' h'=>exact .mk (hl.trans hl') (fun i x z hx hz=>by obtain⟨y,hy⟩:=mid hl hx;exact ih i x y hx hy (h' i y z hy hz))
theorem Bl.trans{x y:Ab}(h:Bl x y):∀ {z:Ab},Bl y z→Bl x z:=by
 induction h with
 | mk hl h hl2 hp hx ih ih2 =>
  intro z hz
  cases hz with
  | mk hl' h' hl2' hp' hx' =>
   exact .mk (hl.trans hl') (fun i x z hx hz=>by obtain⟨y,hy⟩:=mid hl hx;exact ih i x y hx hy (h' i y z hy hz)) (hl2.trans hl2')
    (fun i p q x z h1 h3=>by obtain⟨⟨r,y⟩,h2⟩:=mid hl2 h1;exact(hp i p r x y h1 h2).trans (hp' i r q y z h2 h3))
    (fun i p q x z h1 h3=>by obtain⟨⟨r,y⟩,h2⟩:=mid hl2 h1;exact ih2 i p r x y h1 h2 (hx' i r q y z h2 h3))
end Go.Proofs.YtabhpdhajajoiaaGreatDoor
