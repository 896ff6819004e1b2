/- A part of the proof: Mk, Pz, We, Fwr, Wf, Wg, Sa, Sb, Fs. -/
import Derived.Test.YtpjkfeehgookkaaGreatDoorCards
import Derived.Test.YtpjkfeehgookkaaGreatDoorTie
import Derived.SizedLaws
import Derived.Shelf.Vars
import Derived.WalkKit
import Derived.ProofKit
import Derived.OpenShut
import Derived.LaidMore
import Derived.Carry
import Derived.Deep.DeepHandedRow
import Derived.Deep.DeepWitnessRowRef
import Derived.Lib.LaidTab
import Derived.Lib.LaidU8
import Derived.Stop.LaidErr
import Derived.BigQuiet
import Derived.Deep.QuietTactic
import Derived.Deep.RegionHeld3
import Derived.Test.YtpjkfeehgookkaaGreatDoorGn17
namespace Go.Proofs.YtpjkfeehgookkaaGreatDoor
open Go.RowKit
open _root_.Go.Proofs.Tryz
set_option linter.all false
set_option maxHeartbeats 16000000
set_option maxRecDepth 100000
open List renaming length_append→La',getElem?_eq_getElem→Lg'
open Nat renaming lt_of_lt_of_le→Nl',le_refl→Nr'
theorem Mk(ts:List Tok)(hE:Be ts)(N:Nat)(ihP:GP ts N 2 .pat 84):GM ts (N+1):=by
 intro P g c st a w h hm;obtain⟨t,ht⟩:=At h.inb;have nxt:∀ {l:List LB},isB t st.ok l=true→∃ u,ts[st.i+1]?=some u:=fun hb=>At ((hE.2 _ _ ht).1.1 (Em hb).2)
 cases h0:isB t st.ok [[45]] with
 | true =>
  obtain⟨u,hu⟩:=nxt h0;by_cases hk:u.k=4
  ·exact Le ts hE N ihP P g c st a w h hm t ht h0 u hu hk
  ·exact I1 ts hE N ihP P g c st a w h hm t ht h0 u hu hk
 | false =>
  cases h1:isB t st.ok [[116,114,117,101]] with
  | true=>exact Ml ts hE N ihP P g c st a w h hm t ht h0 h1
  | false =>
   cases h2:isB t st.ok [[102,97,108,115,101]] with
   | true=>exact Ld ts hE N ihP P g c st a w h hm t ht h0 h1 h2
   | false =>
    cases h3:isB t st.ok [[40]] with
    | true=>exact Lf ts hE N ihP P g c st a w h hm t ht h0 h1 h2 h3
    | false =>
     cases h4:isB t st.ok [[123]] with
     | true =>
      obtain⟨u,hu⟩:=nxt h4
      cases hb:isB u st.ok [[125]] with
      | true=>exact K9 ts hE N ihP P g c st a w h hm t ht h0 h1 h2 h3 h4 u hu hb
      | false=>exact N4 ts hE N ihP P g c st a w h hm t ht h0 h1 h2 h3 h4 u hu hb
     | false=>exact Mj ts hE N ihP P g c st a w h hm t ht h0 h1 h2 h3 h4
structure Every (ts:List Tok)(N:Nat):Prop where
 all:Dp ts N
 b:GB ts N
 f:GF ts N
 a:GA ts N
 pat:GP ts N 2 .pat 84
 patom:GP ts N 1 .patom 110
 m:GM ts N
theorem GE.zero(ts:List Tok)(lv:Nat)(nt:NT)(fid:FuncId):GE ts 0 lv nt fid:=fun _ _ _ _ _ _ h=>absurd h (Nat.not_lt_zero _)
theorem every(ts:List Tok)(hE:Be ts):∀ N,Every ts N
 | 0=>⟨⟨GE.zero _ _ _ _,GE.zero _ _ _ _,GE.zero _ _ _ _,GE.zero _ _ _ _,GE.zero _ _ _ _,GE.zero _ _ _ _,GE.zero _ _ _ _,GE.zero _ _ _ _,GE.zero _ _ _ _,GE.zero _ _ _ _,GE.zero _ _ _ _,GE.zero _ _ _ _⟩,
   fun _ _ _ _ _ _ _ h=>absurd h (Nat.not_lt_zero _),fun _ _ _ _ _ _ _ _ _ h=>absurd h (Nat.not_lt_zero _),fun _ _ _ _ _ _ _ _ h=>absurd h (Nat.not_lt_zero _),fun _ _ _ _ _ _ h=>absurd h (Nat.not_lt_zero _),fun _ _ _ _ _ _ h=>absurd h (Nat.not_lt_zero _),fun _ _ _ _ _ _ _ h=>absurd h (Nat.not_lt_zero _)⟩
 | N+1=>by
  have ih:=every ts hE N
  exact⟨⟨fn_step ts hE N ih.all,So ts hE N ih.all,Pw ts hE N ih.all ih.f ih.a,or_step ts hE N ih.all,Ra ts hE N ih.all,Ri ts hE N ih.all,S4 ts hE N ih.all,P8 ts hE N ih.all,Om ts hE N ih.all,Rb ts hE N ih.all,P7 ts hE N ih.all,Pi ts hE N ih.all ih.b⟩,
   L4 ts hE N ih.all,Rr ts hE N ih.all,Ph ts hE N ih.all ih.pat,Sf ts hE N ih.patom,N6 ts hE N ih.m,Mk ts hE N ih.pat⟩
theorem seq_any(ts:List Tok)(hE:Be ts)(P g c:Nat)(st:St)(w:World)(h:PSt P g c ts st w):Calls prog 20 #[.pointer (some ⟨P,0,none⟩)] w (Fl P g c ts st (body .seq) w):=
 (every ts hE (16 *(ts.length-st.i)+14)).all.seq P g c st w h (by omega)
section
attribute [local go_sem ↓] Go.wp_at_zero Go.wp_at_succ
theorem Dm{s:LB}{ts:List Tok}(h:Bw s = .ok ts):Be ts:=by
 obtain⟨_,_,h3,h4,ys,rfl,hg⟩:=Hp h;refine⟨h3,fun i t ht=>⟨?_,h4 t (List.mem_of_getElem? ht)⟩⟩;rw[La',List.length_singleton];rcases Nat.lt_trichotomy i ys.length with hi|hi|hi
 ·rw[List.getElem?_append_left hi] at ht;have:=hg t (List.mem_of_getElem? ht);exact⟨fun _=>by omega,fun _ h=>by have:=this.1;omega⟩
 ·subst hi;rw[List.getElem?_append_right (Nr' _),Nat.sub_self] at ht;simp at ht;subst ht;exact⟨fun h=>absurd rfl h,fun h=>by omega⟩
 ·have:(ys++[(⟨0,s.length,[],0⟩:Tok)])[i]?=none:=List.getElem?_eq_none (by simp;omega);rw[this] at ht;cases ht
theorem E4{ts:List Tok}(h:Be ts):E1 ts:=fun j t ht hk=>(h.2 j t ht).1.1 hk
inductive PR (s:LB):Ah→Int→Int→Prop
 | lexErr {er:Int} {p:Nat} (h:Bw s = .error (er,p)):PR s .zero er p
 | syn {ts:List Tok} {x:Ah} {st':St} {t:Tok} (hl:Bw s = .ok ts) (hr:Run ts (body .seq) ⟨0,true⟩ (.e x) st') (ht:ts[st'.i]?=some t) (hbad:st'.ok=false∨t.k≠0):PR s .zero 21 t.at'
 | many {ts:List Tok} {x:Ah} {st':St} {t:Tok} (hl:Bw s = .ok ts) (hr:Run ts (body .seq) ⟨0,true⟩ (.e x) st') (ht:ts[st'.i]?=some t) (hok:st'.ok=true) (hend:t.k=0) (hm:4096<szE x):PR s .zero 3 0
 | deep {ts:List Tok} {x:Ah} {st':St} {t:Tok} {p:Int×Nat} (hl:Bw s = .ok ts) (hr:Run ts (body .seq) ⟨0,true⟩ (.e x) st') (ht:ts[st'.i]?=some t) (hok:st'.ok=true) (hend:t.k=0) (hm:szE x≤4096) (hd:D5 200 x=some p):PR s .zero 22 p.1
 | ok {ts:List Tok} {x:Ah} {st':St} {t:Tok} (hl:Bw s = .ok ts) (hr:Run ts (body .seq) ⟨0,true⟩ (.e x) st') (ht:ts[st'.i]?=some t) (hok:st'.ok=true) (hend:t.k=0) (hm:szE x≤4096) (hd:D5 200 x=none):PR s x 0 0
theorem Dt(s:ByteArray)(hs:s.size≤9223372036854775807)(w:World)(hV:E2 w):
  Calls prog 12 #[.string s] w fun e w'=>∃ (k a:Int) (nm:LB) (n:Int) (s':LB) (ls:List LB) (args:List Ah) (arms:List (Av×Ah)) (A5:Option Addr) (n5 c5:Nat) (A6:Option Addr) (n6 c6:Nat) (A7:Option Addr) (n7 c7:Nat) (er at_:Int),
   e = .returned (.tuple #[.agg #[vI k,vI a,vS nm,vI n,vS s',.slice A5 n5 c5,.slice A6 n6 c6,.slice A7 n7 c7],vI er,vI at_])∧Ai w' (fun b=>w.heap.size≤b) (.mk k a nm n s' ls args arms) [vI k,vI a,vS nm,vI n,vS s',.slice A5 n5 c5,.slice A6 n6 c6,.slice A7 n7 c7]∧PR s.data.toList (.mk k a nm n s' ls args arms) er at_∧Fr [] w w':=by
 have HV:=Hz hV;have HS:=Hz hs;clear hV hs;go_enter func12,ntmps12;go_wp2_with fail;have f0:Fr [] w (w.alloc (.cells #[vI 0,vI 0,vE,vI 0,vE,vZ,vZ,vZ] 27)):=(Fr.refl [] w).alloc _;have g0:=Ab w (.cells #[vI 0,vI 0,vE,vI 0,vE,vZ,vZ,vZ] 27)
 generalize w.alloc (.cells #[vI 0,vI 0,vE,vI 0,vE,vZ,vZ,vZ] 27)=w1 at *
 generalize hB:w.heap.size=B at *
 cases hl:Bw s.data.toList with
 | error x =>
  obtain⟨er,p⟩:=x;have her:er≠0:=by rcases Ki hl with⟨_,h,_⟩| ⟨_,_,h,_⟩<;> omega
  have her2:(er != 0)=true:=bne_iff_ne.2 her;have HL:=Hz hl;clear hl her;refine(Lex_er s HS.out HL.out w1 (HV.out.fr f0)).mono ?_;rintro e w2 ⟨rfl,f1⟩;have g0:=f1.keep g0 nE;have F:=f0.trans f1;clear f0 f1;have HG:=Hz (An g0 (vI 0) (vI 0) (vE) (vI 0) (vE) (vZ) (vZ) (vZ));have HF:=Hz (F.step (Ag w2 B (vI 0) (vI 0) (vE) (vI 0) (vE) (vZ) (vZ) (vZ)) (fun x hx => .inr (by simp at hx;omega)));unfold st8 at HG HF;have hBy:=Aa g0;obtain⟨⟨u0,u1,u2,u3,u4,u5,u6,u7⟩,z0,z1,z2,z3,z4,z5,z6,z7⟩:=Ac g0;go_wp2_with fail;generalize (((((((w2.setCell ⟨B,0,none⟩ (vI 0)).setCell ⟨B,1,none⟩ (vI 0)).setCell ⟨B,2,none⟩ (vE)).setCell ⟨B,3,none⟩ (vI 0)).setCell ⟨B,4,none⟩ (vE)).setCell ⟨B,5,none⟩ (vZ)).setCell ⟨B,6,none⟩ (vZ)).setCell ⟨B,7,none⟩ (vZ)=Z at HG HF ⊢;obtain⟨⟨d0,d1,d2,d3,d4,d5,d6,d7⟩,_⟩:=Ac HG.out;refine bodyPost_ret (v:=.tuple #[.agg #[vI 0,vI 0,vE,vI 0,vE,vZ,vZ,vZ],vI er,vI p]) ?_ rfl ?_
  ·simp[results,Tryz.f12,go_sem,d0,d1,d2,d3,d4,d5,d6,d7]
  ·exact⟨0,0,[],0,[],[],[],[],none,0,0,none,0,0,none,0,0,er,p,rfl,Ai.leaf Z _ 0 0 [] 0 [],PR.lexErr HL.out,HF.out⟩
 | ok ts =>
  have HE:=Hz (Dm hl);obtain⟨_,_,_,_,ys,hys,_⟩:=Hp hl;have htl:0<ts.length:=by rw[hys];simp
  clear hys;have HL:=Hz hl;clear hl;refine(Lex_ok s HS.out HL.out w1 (HV.out.fr f0)).mono ?_;rintro e w2 ⟨⟨g,c,rfl,hg,hRT⟩,f1⟩;have HRT:=Hz hRT;clear hRT;have g0:=f1.keep g0 nE;have F:=f0.trans f1;have hBw:=Aa g0;clear f0 f1;go_wp2_with fail;have fp:Fr [] w2 (w2.alloc (.cells #[.slice (some ⟨g,0,none⟩) ts.length c,vI 0,.bool true] 52)):=(Fr.refl [] w2).alloc _;have qP:=Ab w2 (.cells #[.slice (some ⟨g,0,none⟩) ts.length c,vI 0,.bool true] 52)
  have h0:PSt w2.heap.size g c ts ⟨0,true⟩ (w2.alloc (.cells #[.slice (some ⟨g,0,none⟩) ts.length c,vI 0,.bool true] 52)):=⟨qP,HRT.out.fr fp hg,Nl' hg fp.size,by omega,htl⟩
  have g0:=fp.keep g0 nE;have F:=F.trans fp
  generalize w2.alloc (.cells #[.slice (some ⟨g,0,none⟩) ts.length c,vI 0,.bool true] 52)=w3 at *
  generalize w2.heap.size=P at *
  clear HRT qP fp;have hBw3:=Aa g0;have hPw3:=Aa h0.blk;refine(seq_any ts HE.out P g c ⟨0,true⟩ w3 h0).mono ?_;rintro e x1 ⟨k1,a1,nm1,n1,s1,ls1,args1,arms1,A51,n51,c51,A61,n61,c61,A71,n71,c71,st2,rfl,hx1,hr1,hst2,f1⟩;have g0:=f1.keep g0 (by simp;omega);have F:=F.step f1 (fun x hx => .inr (by simp at hx;omega));have hs1:=f1.size;have hBx1:=Aa g0;clear f1 h0;obtain⟨p0,p1,p2,_⟩:=C2 hst2.blk;have hPx:=Aa hst2.blk;obtain⟨t,ht⟩:=At hst2.inb;have HT:=Hz ht;clear ht
  cases hok:st2.ok with
  | false =>
   rw[hok] at p2;have HOK:=Hz hok;clear hok;have r1:=Ol;go_wp2_with fail;clear p0 p1 p2;have q1:=Ab x1 (.cells #[vI k1,vI a1,vS nm1,vI n1,vS s1,.slice A51 n51 c51,.slice A61 n61 c61,.slice A71 n71 c71] 27);have fb1:Fr [] x1 (x1.alloc (.cells #[vI k1,vI a1,vS nm1,vI n1,vS s1,.slice A51 n51 c51,.slice A61 n61 c61,.slice A71 n71 c71] 27)):=(Fr.refl [] x1).alloc _
   generalize hY1:x1.alloc (.cells #[vI k1,vI a1,vS nm1,vI n1,vS s1,.slice A51 n51 c51,.slice A61 n61 c61,.slice A71 n71 c71] 27)=x2 at *
   have hT1:=Aa q1
   generalize hTT1:x1.heap.size=T9 at *
   have g0:=fb1.keep g0 nE;have h2:=hst2.fr fb1;have F:=F.trans fb1;have hx1:=hx1.keep (ok':=fun b=>B<b∧b<x2.heap.size) (Sh.of_fr fb1 (fun b hb hlt=>⟨⟨by omega,by have:=fb1.size;omega⟩,fun x=>by cases x⟩));clear fb1 hst2;refine(Bd P g c ts st2 t HT.out x2 h2 HE.out).mono ?_;rintro e y9 ⟨rfl,fm⟩;have g0:=fm.keep g0 nE;have F:=F.trans0 fm;have h2:=h2.fr fm;have q1:=fm.keep q1 nE;have hx1:=hx1.keep (ok':=fun b=>B<b∧b<y9.heap.size) (Sh.of_fr fm (fun b hb hlt=>⟨⟨hb.1,by have:=fm.size;omega⟩,fun x=>by cases x⟩));clear fm;have HG:=Hz (An g0 (vI 0) (vI 0) (vE) (vI 0) (vE) (vZ) (vZ) (vZ));have HF:=Hz (F.step (Ag y9 B (vI 0) (vI 0) (vE) (vI 0) (vE) (vZ) (vZ) (vZ)) (fun x hx => .inr (by simp at hx;omega)));unfold st8 at HG HF;have hBy:=Aa g0;obtain⟨⟨u0,u1,u2,u3,u4,u5,u6,u7⟩,z0,z1,z2,z3,z4,z5,z6,z7⟩:=Ac g0;go_wp2_with fail;generalize (((((((y9.setCell ⟨B,0,none⟩ (vI 0)).setCell ⟨B,1,none⟩ (vI 0)).setCell ⟨B,2,none⟩ (vE)).setCell ⟨B,3,none⟩ (vI 0)).setCell ⟨B,4,none⟩ (vE)).setCell ⟨B,5,none⟩ (vZ)).setCell ⟨B,6,none⟩ (vZ)).setCell ⟨B,7,none⟩ (vZ)=Z at HG HF ⊢;obtain⟨⟨d0,d1,d2,d3,d4,d5,d6,d7⟩,_⟩:=Ac HG.out;refine bodyPost_ret (v:=.tuple #[.agg #[vI 0,vI 0,vE,vI 0,vE,vZ,vZ,vZ],vI 21,vI t.at']) ?_ rfl ?_
   ·simp[results,Tryz.f12,go_sem,d0,d1,d2,d3,d4,d5,d6,d7]
   ·exact⟨0,0,[],0,[],[],[],[],none,0,0,none,0,0,none,0,0,21,t.at',rfl,Ai.leaf Z _ 0 0 [] 0 [],PR.syn HL.out hr1 HT.out (.inl HOK.out),HF.out⟩
  | true =>
   rw[hok] at p2;have HOK:=Hz hok;clear hok;have r0:=Hl;have r1:=Ol;go_wp2_with fail;clear p0 p1 p2;have q1:=Ab x1 (.cells #[vI k1,vI a1,vS nm1,vI n1,vS s1,.slice A51 n51 c51,.slice A61 n61 c61,.slice A71 n71 c71] 27);have fb1:Fr [] x1 (x1.alloc (.cells #[vI k1,vI a1,vS nm1,vI n1,vS s1,.slice A51 n51 c51,.slice A61 n61 c61,.slice A71 n71 c71] 27)):=(Fr.refl [] x1).alloc _
   generalize hY1:x1.alloc (.cells #[vI k1,vI a1,vS nm1,vI n1,vS s1,.slice A51 n51 c51,.slice A61 n61 c61,.slice A71 n71 c71] 27)=x2 at *
   have hT1:=Aa q1
   generalize hTT1:x1.heap.size=T9 at *
   have g0:=fb1.keep g0 nE;have h2:=hst2.fr fb1;have F:=F.trans fb1;have hx1:=hx1.keep (ok':=fun b=>B<b∧b<x2.heap.size) (Sh.of_fr fb1 (fun b hb hlt=>⟨⟨by omega,by have:=fb1.size;omega⟩,fun x=>by cases x⟩));clear fb1 hst2;refine(Bd P g c ts st2 t HT.out x2 h2 HE.out).mono ?_;rintro e y8 ⟨rfl,fm⟩;have g0:=fm.keep g0 nE;have F:=F.trans0 fm;have h2:=h2.fr fm;have q1:=fm.keep q1 nE;have hx1:=hx1.keep (ok':=fun b=>B<b∧b<y8.heap.size) (Sh.of_fr fm (fun b hb hlt=>⟨⟨hb.1,by have:=fm.size;omega⟩,fun x=>by cases x⟩));clear fm
   cases hk:(t.k != 0)with
   | true =>
    have HK:Hid (t.k≠0):=Hz (bne_iff_ne.1 hk);go_wp2_with fail;refine(Bd P g c ts st2 t HT.out y8 h2 HE.out).mono ?_;rintro e y9 ⟨rfl,fm⟩;have g0:=fm.keep g0 nE;have F:=F.trans0 fm;have h2:=h2.fr fm;have q1:=fm.keep q1 nE;have hx1:=hx1.keep (ok':=fun b=>B<b∧b<y9.heap.size) (Sh.of_fr fm (fun b hb hlt=>⟨⟨hb.1,by have:=fm.size;omega⟩,fun x=>by cases x⟩));clear fm;have HG:=Hz (An g0 (vI 0) (vI 0) (vE) (vI 0) (vE) (vZ) (vZ) (vZ));have HF:=Hz (F.step (Ag y9 B (vI 0) (vI 0) (vE) (vI 0) (vE) (vZ) (vZ) (vZ)) (fun x hx => .inr (by simp at hx;omega)));unfold st8 at HG HF;have hBy:=Aa g0;obtain⟨⟨u0,u1,u2,u3,u4,u5,u6,u7⟩,z0,z1,z2,z3,z4,z5,z6,z7⟩:=Ac g0;go_wp2_with fail;generalize (((((((y9.setCell ⟨B,0,none⟩ (vI 0)).setCell ⟨B,1,none⟩ (vI 0)).setCell ⟨B,2,none⟩ (vE)).setCell ⟨B,3,none⟩ (vI 0)).setCell ⟨B,4,none⟩ (vE)).setCell ⟨B,5,none⟩ (vZ)).setCell ⟨B,6,none⟩ (vZ)).setCell ⟨B,7,none⟩ (vZ)=Z at HG HF ⊢;obtain⟨⟨d0,d1,d2,d3,d4,d5,d6,d7⟩,_⟩:=Ac HG.out;refine bodyPost_ret (v:=.tuple #[.agg #[vI 0,vI 0,vE,vI 0,vE,vZ,vZ,vZ],vI 21,vI t.at']) ?_ rfl ?_
    ·simp[results,Tryz.f12,go_sem,d0,d1,d2,d3,d4,d5,d6,d7]
    ·exact⟨0,0,[],0,[],[],[],[],none,0,0,none,0,0,none,0,0,21,t.at',rfl,Ai.leaf Z _ 0 0 [] 0 [],PR.syn HL.out hr1 HT.out (.inr HK.out),HF.out⟩
   | false =>
    have HK:Hid (t.k=0):=Hz (by simpa using hk);have hcost:=hr1.cost (b:=0) (wtE .seq) HOK.out
    have hsz:szE (.mk k1 a1 nm1 n1 s1 ls1 args1 arms1)≤8194:=by
     have h1:szE (.mk k1 a1 nm1 n1 s1 ls1 args1 arms1)+1≤0+2 *(st2.i-0):=hcost;have:=h2.inb;have:=HE.out.1;omega
    have HSZ:=Hz hsz;clear hcost hsz;obtain⟨⟨l0,l1,l2,l3,l4,l5,l6,l7⟩,_⟩:=Ac q1;have hT9:=Aa q1;have cC:=Hz (Kf k1 a1 nm1 n1 s1 ls1 args1 arms1 A51 n51 c51 A61 n61 c61 A71 n71 c71 4096 (by omega) (by omega) y8 (hx1.keep (ok':=fun b=>b<y8.heap.size) (Sh.of_fr (Fr.refl [] y8) (fun b hb hlt=>⟨hb.2,fun x=>by cases x⟩))) (by have:=HSZ.out;omega));go_wp2_with fail;refine cC.out.mono ?_;rintro e y9 ⟨rfl,fm⟩;clear cC hk;have g0:=fm.keep g0 nE;have q1:=fm.keep q1 nE;have F:=F.trans0 fm;have hx1:=hx1.keep (ok':=fun b=>B<b∧b<y9.heap.size) (Sh.of_fr fm (fun b hb hlt=>⟨⟨hb.1,by have:=fm.size;omega⟩,fun x=>by cases x⟩));clear fm l0 l1 l2 l3 l4 l5 l6 l7 hT9
    generalize hRR:min (szE (.mk k1 a1 nm1 n1 s1 ls1 args1 arms1):Int) (4096+1)=RR at *
    by_cases hm:4096<szE (.mk k1 a1 nm1 n1 s1 ls1 args1 arms1)
    ·have hmin:RR=4097:=by omega
     have HM:=Hz hm;clear hm hRR;subst hmin;have HG:=Hz (An g0 (vI 0) (vI 0) (vE) (vI 0) (vE) (vZ) (vZ) (vZ));have HF:=Hz (F.step (Ag y9 B (vI 0) (vI 0) (vE) (vI 0) (vE) (vZ) (vZ) (vZ)) (fun x hx => .inr (by simp at hx;omega)));unfold st8 at HG HF;have hBy:=Aa g0;obtain⟨⟨u0,u1,u2,u3,u4,u5,u6,u7⟩,z0,z1,z2,z3,z4,z5,z6,z7⟩:=Ac g0;go_wp2_with fail;generalize (((((((y9.setCell ⟨B,0,none⟩ (vI 0)).setCell ⟨B,1,none⟩ (vI 0)).setCell ⟨B,2,none⟩ (vE)).setCell ⟨B,3,none⟩ (vI 0)).setCell ⟨B,4,none⟩ (vE)).setCell ⟨B,5,none⟩ (vZ)).setCell ⟨B,6,none⟩ (vZ)).setCell ⟨B,7,none⟩ (vZ)=Z at HG HF ⊢;obtain⟨⟨d0,d1,d2,d3,d4,d5,d6,d7⟩,_⟩:=Ac HG.out;refine bodyPost_ret (v:=.tuple #[.agg #[vI 0,vI 0,vE,vI 0,vE,vZ,vZ,vZ],vI 3,vI 0]) ?_ rfl ?_
     ·simp[results,Tryz.f12,go_sem,d0,d1,d2,d3,d4,d5,d6,d7]
     ·exact⟨0,0,[],0,[],[],[],[],none,0,0,none,0,0,none,0,0,3,0,rfl,Ai.leaf Z _ 0 0 [] 0 [],PR.many HL.out hr1 HT.out HOK.out HK.out HM.out,HF.out⟩
    ·have HM:Hid (szE (.mk k1 a1 nm1 n1 s1 ls1 args1 arms1)≤4096):=Hz (by omega);have hle:RR≤4096:=by omega
     clear hm hRR;obtain⟨⟨l0,l1,l2,l3,l4,l5,l6,l7⟩,_⟩:=Ac q1;have hT9:=Aa q1;have cD:=Hz (Lr k1 a1 nm1 n1 s1 ls1 args1 arms1 A51 n51 c51 A61 n61 c61 A71 n71 c71 200 y9 (hx1.keep (ok':=fun b=>b<y9.heap.size) (Sh.of_fr (Fr.refl [] y9) (fun b hb hlt=>⟨hb.2,fun x=>by cases x⟩))) (by have:=HSZ.out;omega))
     cases hd:D5 200 (.mk k1 a1 nm1 n1 s1 ls1 args1 arms1)with
     | some p =>
      have HDP:=Hz hd;rw[hd] at cD;clear hd;go_wp2_with fail;refine cD.out.mono ?_;rintro e y10 ⟨rfl,fm⟩;clear cD hle l0 l1 l2 l3 l4 l5 l6 l7 hT9;have g0:=fm.keep g0 nE;have F:=F.trans0 fm;have HG:=Hz (An g0 (vI 0) (vI 0) (vE) (vI 0) (vE) (vZ) (vZ) (vZ));have HF:=Hz (F.step (Ag y10 B (vI 0) (vI 0) (vE) (vI 0) (vE) (vZ) (vZ) (vZ)) (fun x hx => .inr (by simp at hx;omega)));unfold st8 at HG HF;have hBy:=Aa g0;obtain⟨⟨u0,u1,u2,u3,u4,u5,u6,u7⟩,z0,z1,z2,z3,z4,z5,z6,z7⟩:=Ac g0;go_wp2_with fail;generalize (((((((y10.setCell ⟨B,0,none⟩ (vI 0)).setCell ⟨B,1,none⟩ (vI 0)).setCell ⟨B,2,none⟩ (vE)).setCell ⟨B,3,none⟩ (vI 0)).setCell ⟨B,4,none⟩ (vE)).setCell ⟨B,5,none⟩ (vZ)).setCell ⟨B,6,none⟩ (vZ)).setCell ⟨B,7,none⟩ (vZ)=Z at HG HF ⊢;obtain⟨⟨d0,d1,d2,d3,d4,d5,d6,d7⟩,_⟩:=Ac HG.out;refine bodyPost_ret (v:=.tuple #[.agg #[vI 0,vI 0,vE,vI 0,vE,vZ,vZ,vZ],vI 22,vI p.1]) ?_ rfl ?_
      ·simp[results,Tryz.f12,go_sem,d0,d1,d2,d3,d4,d5,d6,d7]
      ·exact⟨0,0,[],0,[],[],[],[],none,0,0,none,0,0,none,0,0,22,p.1,rfl,Ai.leaf Z _ 0 0 [] 0 [],PR.deep HL.out hr1 HT.out HOK.out HK.out HM.out HDP.out,HF.out⟩
     | none =>
      have HDP:=Hz hd;rw[hd] at cD;clear hd;go_wp2_with fail;refine cD.out.mono ?_;rintro e y10 ⟨rfl,fm⟩;clear cD hle l0 l1 l2 l3 l4 l5 l6 l7 hT9;have g0:=fm.keep g0 nE;have q1:=fm.keep q1 nE;have F:=F.trans0 fm;have hx1:=hx1.keep (ok':=fun b=>B<b) (Sh.of_fr fm (fun b hb hlt=>⟨hb.1,fun x=>by cases x⟩));have HG:=Hz (An g0 (vI k1) (vI a1) (vS nm1) (vI n1) (vS s1) (.slice A51 n51 c51) (.slice A61 n61 c61) (.slice A71 n71 c71));have HF:=Hz (F.step (Ag y10 B (vI k1) (vI a1) (vS nm1) (vI n1) (vS s1) (.slice A51 n51 c51) (.slice A61 n61 c61) (.slice A71 n71 c71)) (fun x hx => .inr (by simp at hx;omega)));have HX:Hid (Ai (st8 y10 B (vI k1) (vI a1) (vS nm1) (vI n1) (vS s1) (.slice A51 n51 c51) (.slice A61 n61 c61) (.slice A71 n71 c71)) (fun b=>w.heap.size≤b) (.mk k1 a1 nm1 n1 s1 ls1 args1 arms1) [vI k1,vI a1,vS nm1,vI n1,vS s1,.slice A51 n51 c51,.slice A61 n61 c61,.slice A71 n71 c71]):=Hz (hx1.keep (Sh.of_fr (Ag y10 B (vI k1) (vI a1) (vS nm1) (vI n1) (vS s1) (.slice A51 n51 c51) (.slice A61 n61 c61) (.slice A71 n71 c71)) (fun b hb hlt=>⟨by omega,by simp;omega⟩)));unfold st8 at HG HF HX;have hBy:=Aa g0;have hTy:=Aa q1;obtain⟨⟨u0,u1,u2,u3,u4,u5,u6,u7⟩,z0,z1,z2,z3,z4,z5,z6,z7⟩:=Ac g0;obtain⟨⟨l0,l1,l2,l3,l4,l5,l6,l7⟩,_⟩:=Ac q1;go_wp2_with fail;generalize (((((((y10.setCell ⟨B,0,none⟩ (vI k1)).setCell ⟨B,1,none⟩ (vI a1)).setCell ⟨B,2,none⟩ (vS nm1)).setCell ⟨B,3,none⟩ (vI n1)).setCell ⟨B,4,none⟩ (vS s1)).setCell ⟨B,5,none⟩ (.slice A51 n51 c51)).setCell ⟨B,6,none⟩ (.slice A61 n61 c61)).setCell ⟨B,7,none⟩ (.slice A71 n71 c71)=Z at HG HF HX ⊢;obtain⟨⟨d0,d1,d2,d3,d4,d5,d6,d7⟩,_⟩:=Ac HG.out;refine bodyPost_ret (v:=.tuple #[.agg #[vI k1,vI a1,vS nm1,vI n1,vS s1,.slice A51 n51 c51,.slice A61 n61 c61,.slice A71 n71 c71],vI 0,vI 0]) ?_ rfl ?_
      ·simp[results,Tryz.f12,go_sem,d0,d1,d2,d3,d4,d5,d6,d7]
      ·exact⟨_,_,_,_,_,_,_,_,_,_,_,_,_,_,_,_,_,0,0,rfl,HX.out,PR.ok HL.out hr1 HT.out HOK.out HK.out HM.out HDP.out,HF.out⟩
end
section
open Go.ChangeShapes Go.WideShapes Go.ChangeAt Go.ChangeMaps Go.RowKit
theorem own:ownKnob Tryz.prog.godebug=none:=by kernel_rfl
theorem Pc{n:Int}(h:(Lit.int .u8 n).wf=true):0≤n∧n≤255:=by
 simp only[Lit.wf,Bool.and_eq_true,decide_eq_true_eq] at h
 exact⟨h.1,h.2⟩
theorem star : "*" ++ "errors.errorString" = "*errors.errorString" := by decide
theorem rowErr (u : TypeId) (h : Tryz.prog.typeName? 3 u = some "*errors.errorString") : u = 157 :=
 typeName_ptr_named (nm := "errors.errorString") (by rw [star]; kernel_rfl) (by kernel_rfl) (by decide) u (by rw [star]; exact h)
theorem Rv:(Tryz.prog.globals[5]?).map (·.type)=some 167:=by kernel_rfl
theorem Ru:(Tryz.prog.globals[2]?).map (·.type)=some 96:=by kernel_rfl
theorem Rg:Tryz.prog.cellsOf 167=20:=by kernel_rfl
theorem Rh:Tryz.prog.cellsOf 132=1:=by kernel_rfl
theorem Re:Tryz.prog.cellsOf 159=1:=by kernel_rfl
theorem Rf:Tryz.prog.cellsOf 9=1:=by kernel_rfl
theorem vars_in{W:World}(h:W.ShapedOpen Tryz.prog):Tryz.prog.globals.size≤W.heap.size:=by
 have hb:(((begin Tryz.prog (fun _ _=>0) default).world.heap[Tryz.prog.globals.size-1]?).bind Obj.row?).isSome=true:=by kernel_rfl
 obtain⟨⟨z,t⟩,hz⟩:=Option.isSome_iff_exists.1 hb
 have hlt:Tryz.prog.globals.size-1<Tryz.prog.globals.size:=of_decide_eq_true (by kernel_rfl)
 obtain⟨cs,hcs,_⟩:=h.1 _ z t hlt hz
 have:=(Array.getElem?_eq_some_iff.1 hcs).1
 omega
theorem env_of{W:World}(h:laidMetH Tryz.prog Rows.parseReadsRow.laid W)(hs:W.ShapedOpen Tryz.prog):E2 W:=by
 rw[MakeChecks.laidMetH_plain _ _ _ (by kernel_rfl)] at h
 have h2:=h.tail.tail
 have h4:=h2.tail.tail
 obtain⟨a,s,hv,_⟩:=laid_sentinel h4 gRng Ru Tryz.underlying96 rowErr Tryz.underlying157 Tryz.underlying159 rfl rfl Tryz.underlying9 Re Rf
 exact⟨⟨vars_in hs,Lib.tabIs_of_head gTab Rv Tryz.underlying167 Tryz.underlying132 Rh Rg h2,_,_,hv⟩,Go.Proofs.cell_of_shapedOpen_int (t:=3) (zero:=#[.int .i64 0]) hs nMax (by kernel_rfl) rfl (by kernel_rfl) (by kernel_rfl) Tryz.underlying3⟩
noncomputable def Rp(os:Os):World :=
 { World.doorLaid Tryz.prog 72 os with heap:=(World.doorLaid Tryz.prog 72 os).heap.modify 3 fun
   | .cells _ t frozen => .cells (Lib.firstTab.map fun z=>Value.int .u8 z).toArray t frozen
   | o=>o }
theorem R8(os:Os)(args:Array Value):laidMet Tryz.prog Rows.parseReadsRow.laid ((Rp os).forCall (fun _ _=>0) ⟨#[],args,[]⟩).memory :=
 laidMet_of_run' 8 (by kernel_rfl) (by kernel_rfl)
end
section
attribute [local go_sem ↓] Go.wp_at_zero Go.wp_at_succ
theorem PR.det{s:LB}{x x':Ah}{er er' a a':Int}(h:PR s x er a)(h':PR s x' er' a'):x'=x∧er'=er∧a'=a:=by
 have key:∀ {ts ts':List Tok} {x x':Ah} {st st':St} {t t':Tok},Bw s = .ok ts→Run ts (body .seq) ⟨0,true⟩ (.e x) st→ts[st.i]?=some t→Bw s = .ok ts'→Run ts' (body .seq) ⟨0,true⟩ (.e x') st'→ts'[st'.i]?=some t'→x'=x∧st'=st∧t'=t:=by
  intro ts ts' x x' st st' t t' hl hr ht hl' hr' ht';rw[hl] at hl';cases hl';obtain⟨e1,e2⟩:=hr.det hr';cases e1;cases e2;rw[ht] at ht';cases ht';exact⟨rfl,rfl,rfl⟩
 have bad:∀ {st:St} {t:Tok},(st.ok=false∨t.k≠0)→st.ok=true→t.k=0→False:=fun h h1 h2=>h.elim (fun h=>by rw[h] at h1;cases h1) (fun h=>h h2)
 cases h with
 | lexErr h =>
  cases h' with
  | lexErr h'=>rw[h] at h';cases h';exact⟨rfl,rfl,rfl⟩
  | syn hl=>rw[h] at hl;cases hl
  | many hl=>rw[h] at hl;cases hl
  | deep hl=>rw[h] at hl;cases hl
  | ok hl=>rw[h] at hl;cases hl
 | syn hl hr ht hbad =>
  cases h' with
  | lexErr h'=>rw[hl] at h';cases h'
  | syn hl' hr' ht' hbad'=>obtain⟨_,_,rfl⟩:=key hl hr ht hl' hr' ht';exact⟨rfl,rfl,rfl⟩
  | many hl' hr' ht' hok' hend'=>obtain⟨_,rfl,rfl⟩:=key hl hr ht hl' hr' ht';exact(bad hbad hok' hend').elim
  | deep hl' hr' ht' hok' hend'=>obtain⟨_,rfl,rfl⟩:=key hl hr ht hl' hr' ht';exact(bad hbad hok' hend').elim
  | ok hl' hr' ht' hok' hend'=>obtain⟨_,rfl,rfl⟩:=key hl hr ht hl' hr' ht';exact(bad hbad hok' hend').elim
 | many hl hr ht hok hend hm =>
  cases h' with
  | lexErr h'=>rw[hl] at h';cases h'
  | syn hl' hr' ht' hbad'=>obtain⟨_,rfl,rfl⟩:=key hl hr ht hl' hr' ht';exact(bad hbad' hok hend).elim
  | many hl' hr' ht' hok' hend' hm'=>exact⟨rfl,rfl,rfl⟩
  | deep hl' hr' ht' hok' hend' hm'=>obtain⟨rfl,_,_⟩:=key hl hr ht hl' hr' ht';omega
  | ok hl' hr' ht' hok' hend' hm'=>obtain⟨rfl,_,_⟩:=key hl hr ht hl' hr' ht';omega
 | deep hl hr ht hok hend hm hd =>
  cases h' with
  | lexErr h'=>rw[hl] at h';cases h'
  | syn hl' hr' ht' hbad'=>obtain⟨_,rfl,rfl⟩:=key hl hr ht hl' hr' ht';exact(bad hbad' hok hend).elim
  | many hl' hr' ht' hok' hend' hm'=>obtain⟨rfl,_,_⟩:=key hl hr ht hl' hr' ht';omega
  | deep hl' hr' ht' hok' hend' hm' hd'=>obtain⟨rfl,_,_⟩:=key hl hr ht hl' hr' ht';rw[hd] at hd';cases hd';exact⟨rfl,rfl,rfl⟩
  | ok hl' hr' ht' hok' hend' hm' hd'=>obtain⟨rfl,_,_⟩:=key hl hr ht hl' hr' ht';rw[hd] at hd';cases hd'
 | ok hl hr ht hok hend hm hd =>
  cases h' with
  | lexErr h'=>rw[hl] at h';cases h'
  | syn hl' hr' ht' hbad'=>obtain⟨_,rfl,rfl⟩:=key hl hr ht hl' hr' ht';exact(bad hbad' hok hend).elim
  | many hl' hr' ht' hok' hend' hm'=>obtain⟨rfl,_,_⟩:=key hl hr ht hl' hr' ht';omega
  | deep hl' hr' ht' hok' hend' hm' hd'=>obtain⟨rfl,_,_⟩:=key hl hr ht hl' hr' ht';rw[hd] at hd';cases hd'
  | ok hl' hr' ht' hok' hend' hm' hd'=>obtain⟨rfl,_,_⟩:=key hl hr ht hl' hr' ht';exact⟨rfl,rfl,rfl⟩
def awS:LB:=[97,32,45,32,98,32,45,32,99,59,32,100]
def awL:List Tok:=[⟨1,0,[97],0⟩,⟨7,2,[45],0⟩,⟨1,4,[98],0⟩,⟨7,6,[45],0⟩,⟨1,8,[99],0⟩,⟨7,9,[59],0⟩,⟨1,11,[100],0⟩,⟨0,12,[],0⟩]
theorem awL_eq:Bw awS = .ok awL:=by rfl
def H5(a:Int)(nm:LB):Ah:=.mk 1 a nm 0 [] [] [] []
def awX:Ah:=Dg 20 9 [opE 2 6 [opE 2 2 [H5 0 [97],H5 4 [98]],H5 8 [99]],H5 11 [100]]
theorem awRun:Run awL (body .seq) ⟨0,true⟩ (.e awX) ⟨7,true⟩:=Do 200 _ _ _ _ (by rfl)
theorem awPR:PR awS awX 0 0:=.ok awL_eq awRun rfl rfl rfl (by decide) (by rfl)
def awS2:LB:=[97,32,61,32,98,32,61,32,99]
def awL2:List Tok:=[⟨1,0,[97],0⟩,⟨7,2,[61],0⟩,⟨1,4,[98],0⟩,⟨7,6,[61],0⟩,⟨1,8,[99],0⟩,⟨0,9,[],0⟩]
theorem awL2_eq:Bw awS2 = .ok awL2:=by rfl
theorem awRun2:Run awL2 (body .seq) ⟨0,true⟩ (.e (opE 7 2 [H5 0 [97],H5 4 [98]])) ⟨3,true⟩:=Do 200 _ _ _ _ (by rfl)
theorem awPR2:PR awS2 .zero 21 6:=.syn awL2_eq awRun2 rfl (.inr (by decide))
theorem Nn(w:World)(hE:E2 w):
  Calls prog 11 #[] w fun e w'=>e = .returned (.bool true)∧Fr [] w w':=by
 have p1:=fun w hE=>Hz (Dt ⟨#[97,32,45,32,98,32,45,32,99,59,32,100]⟩ (by decide) w hE)
 have p2:=fun w hE=>Hz (Dt ⟨#[97,32,61,32,98,32,61,32,99]⟩ (by decide) w hE)
 have HE:=Hz hE;clear hE;go_enter func11,ntmps11;go_wp2_with fail;refine(p1 _ HE.out).out.mono ?_;rintro e w1 ⟨k,a,nm,n,s',ls,args,arms,A5,n5,c5,A6,n6,c6,A7,n7,c7,er,at_,rfl,hx,hpr,f1⟩;obtain⟨hX,rfl,rfl⟩:=PR.det awPR hpr;unfold awX Dg at hX;cases hX;clear hpr;have hx0:=hx
 cases hx0 with
 | mk c5' c6' cp ce h5 e5 h6 e6 h7 e7 e8 =>
 have e0:=e6 0 _ rfl
 have hsl:∃ g og c,A6=some ⟨g,og,none⟩∧n6=2∧c6=c∧g<w1.heap.size∧w1.cell? ⟨g,og+3,none⟩=some (vI 2):=by
  rcases h6 with⟨_,_,_,h⟩| ⟨g,og,c,hv,hg,hgs,_,hcs⟩
  ·cases h
  ·cases hv;obtain⟨hl0,hc0⟩:=hcs 0 (by simp)
   generalize c6' 0=C at *
   unfold opE at e0;cases e0;have:=hc0 3 _ rfl;exact⟨g,og,_,rfl,rfl,rfl,hgs,by simpa using this⟩
 obtain⟨g,og,_,rfl,rfl,rfl,hgs,x3⟩:=hsl;clear h5 e5 h6 e6 h7 e7 e8 e0;have q1:=Ab w1 (.cells #[vI 20,vI 9,vE,vI 0,vE,.slice A5 n5 c5,.slice (some ⟨g,og,none⟩) 2 c6,.slice A7 n7 c7] 27);have fb:Fr [] w1 (w1.alloc (.cells #[vI 20,vI 9,vE,vI 0,vE,.slice A5 n5 c5,.slice (some ⟨g,og,none⟩) 2 c6,.slice A7 n7 c7] 27)):=(Fr.refl [] w1).alloc _;go_wp2_with fail;have HX:=Hz (hx.keep (ok':=fun b=>b<(w1.alloc (.cells #[vI 20,vI 9,vE,vI 0,vE,.slice A5 n5 c5,.slice (some ⟨g,og,none⟩) 2 c6,.slice A7 n7 c7] 27)).heap.size) (Sh.of_fr fb (fun b hb hlt=>⟨by simp;omega,fun x=>by cases x⟩)));have x3:=(fb.cell (p:=⟨g,og+3,none⟩) hgs (fun x=>by cases x)).trans x3;have hgs2:g<(w1.alloc (.cells #[vI 20,vI 9,vE,vI 0,vE,.slice A5 n5 c5,.slice (some ⟨g,og,none⟩) 2 c6,.slice A7 n7 c7] 27)).heap.size:=by simp;omega
 have f2:=f1.trans fb;clear hx fb f1 hgs;have hT:=Aa q1
 generalize w1.alloc (.cells #[vI 20,vI 9,vE,vI 0,vE,.slice A5 n5 c5,.slice (some ⟨g,og,none⟩) 2 c6,.slice A7 n7 c7] 27)=w2 at *
 generalize w1.heap.size=T1 at *
 have hgs:=hgs2;clear hgs2;refine(p2 _ (HE.out.fr f2)).out.mono ?_;rintro e w3 ⟨k,a,nm,n,s',ls,args,arms,B5,m5,d5,B6,m6,d6,B7,m7,d7,er,at_,rfl,_,hpr,f3⟩;obtain⟨hX,rfl,rfl⟩:=PR.det awPR2 hpr;unfold Ah.zero at hX;cases hX;clear hpr p1 p2;have q1:=f3.keep q1 nE;have x3:=(f3.cell (p:=⟨g,og+3,none⟩) hgs (fun x=>by cases x)).trans x3;have hgs:g<w3.heap.size:=Nl' hgs f3.size;have HX:=Hz (HX.out.keep (ok':=fun b=>b<w3.heap.size) (Sh.of_fr f3 (fun b hb hlt=>⟨by have:=f3.size;omega,fun x=>by cases x⟩)));have f4:=f2.trans f3;have hT3:=Aa q1;obtain⟨⟨l0,l1,l2,l3,l4,l5,l6,l7⟩,_⟩:=Ac q1;have fb:Fr [] w3 (w3.alloc (.cells #[vI 0,vI 0,vE,vI 0,vE,.slice B5 m5 d5,.slice B6 m6 d6,.slice B7 m7 d7] 27)):=(Fr.refl [] w3).alloc _;have cC:=Hz (Kf 20 9 [] 0 [] [] _ [] _ _ _ _ _ _ _ _ _ 99 (by omega) (by omega) (w3.alloc (.cells #[vI 0,vI 0,vE,vI 0,vE,.slice B5 m5 d5,.slice B6 m6 d6,.slice B7 m7 d7] 27)) (HX.out.keep (ok':=fun b=>b<(w3.alloc (.cells #[vI 0,vI 0,vE,vI 0,vE,.slice B5 m5 d5,.slice B6 m6 d6,.slice B7 m7 d7] 27)).heap.size) (Sh.of_fr fb (fun b hb hlt=>⟨by simp;omega,fun x=>by cases x⟩))) (by decide));have e1:min ((szE (.mk 20 9 [] 0 [] [] [opE 2 6 [opE 2 2 [H5 0 [97],H5 4 [98]],H5 8 [99]],H5 11 [100]] []):Nat):Int) (99+1)=7:=by rfl
 rw[e1] at cC;clear e1;go_wp2_with fail;refine cC.out.mono ?_;rintro e w5 ⟨rfl,f5⟩;clear cC l0 l1 l2 l3 l4 l5 l6 l7;have f5:=fb.trans f5;have q1:=f5.keep q1 nE;have x3:=(f5.cell (p:=⟨g,og+3,none⟩) hgs (fun x=>by cases x)).trans x3;have hgs:g<w5.heap.size:=Nl' hgs f5.size;have f6:=f4.trans f5;have hT5:=Aa q1;obtain⟨⟨l0,l1,l2,l3,l4,l5,l6,l7⟩,_⟩:=Ac q1;have cD:=Hz (Lr 20 9 [] 0 [] [] _ [] _ _ _ _ _ _ _ _ _ 2 w5 (HX.out.keep (ok':=fun b=>b<w5.heap.size) (Sh.of_fr f5 (fun b hb hlt=>⟨by have:=f5.size;omega,fun x=>by cases x⟩))) (by decide));have e2:D5 2 (.mk 20 9 [] 0 [] [] [opE 2 6 [opE 2 2 [H5 0 [97],H5 4 [98]],H5 8 [99]],H5 11 [100]] [])=some (2,3):=by rfl
 rw[e2] at cD;clear e2 fb;go_wp2_with fail;refine cD.out.mono ?_;rintro e w6 ⟨rfl,f7⟩;clear cD l0 l1 l2 l3 l4 l5 l6 l7;have q1:=f7.keep q1 nE;have x3:=(f7.cell (p:=⟨g,og+3,none⟩) hgs (fun x=>by cases x)).trans x3;have hT6:=Aa q1;have hgs:g<w6.heap.size:=Nl' hgs f7.size;obtain⟨⟨l0,l1,l2,l3,l4,l5,l6,l7⟩,_⟩:=Ac q1;go_wp2_with fail;go_ret;exact⟨rfl,f6.trans f7⟩
theorem kc{w w':World}{p:Addr}{v:Value}(f:Fr [] w w')(h:w.cell? p=some v)(hlt:p.block<w.heap.size):w'.cell? p=some v:=(f.cell hlt (fun x=>by cases x)).trans h
theorem Il(ls:List LB)(hls:ls.length≤1099511627776)(A A':Option Addr)(c c':Nat)(w:World){ok ok':Nat→Prop}{cs cs':Nat→List Value}(h:D4 w ok (.slice A ls.length c) ls.length 1 cs)(e:∀ (i:Nat)(x:LB),ls[i]?=some x→cs i=S2 x)
  (h':D4 w ok' (.slice A' ls.length c') ls.length 1 cs') (e':∀ (i:Nat) (x:LB),ls[i]?=some x→cs' i=S2 x):
  Calls prog 24 #[.slice A ls.length c,.slice A' ls.length c'] w fun e w'=>e = .returned (.bool true)∧Fr [] w w':=by
 have H:=Hz h;have H':=Hz h';have E:=Hz e;have E':=Hz e';have hl:(ls.length:Int)≤1099511627776:=by omega
 clear h h' e e';go_enter func24,ntmps24;go_wp2_with fail
 go_loopw [5] (fun iv wr=>∃ i:Nat,iv=vI i∧i≤ls.length∧Fr [] w wr) (fun iv wr=>ls.length-(intOf iv).toNat)
 case atStart=>exact⟨0,rfl,by omega,Fr.refl _ _⟩
 case round =>
  obtain⟨i,rfl,hi,f⟩:=hrel;by_cases hlt:i<ls.length
  ·obtain⟨g,og,rfl,_,hg,_,_,hc⟩:=H.out.row hlt;obtain⟨g',og',rfl,_,hg',_,_,hc'⟩:=H'.out.row hlt;have hx:ls[i]?=some ls[i]:=Lg' hlt;rw[E.out i _ hx] at hc;rw[E'.out i _ hx] at hc';have x0:wr.cell? ⟨g,og+i,none⟩=some (.string ⟨(ls[i]).toArray⟩):=(f.cell (p:=⟨g,og+i,none⟩) hg (fun x=>by cases x)).trans (by have:=hc 0 _ rfl;simpa using this);have x1:wr.cell? ⟨g',og'+i,none⟩=some (.string ⟨(ls[i]).toArray⟩):=(f.cell (p:=⟨g',og'+i,none⟩) hg' (fun x=>by cases x)).trans (by have:=hc' 0 _ rfl;simpa using this)
   generalize ls[i]=s at *
   clear hc hc' hx;have q1:(0:Int)≤(i:Int):=by omega
   have q2:(i:Int)<(ls.length:Int):=by omega
   go_wp2_with fail;go_quiet (fail);go_wp2_with fail
   go_roundw
   case rel=>exact⟨i+1,by simp,by omega,f.drewN _⟩
   case measure=>simp[intOf];omega
  ·have ei:i=ls.length:=by omega
   subst ei;go_wp2_with fail;go_ret;exact⟨rfl,f⟩
def SMP(N:Nat):Prop:=∀ (k a a':Int)(nm:LB)(n:Int)(s:LB)(ls:List LB)(args args':List Av)(A5 A5':Option Addr)(cc5 cc5':Nat)(A6 A6':Option Addr)(cc6 cc6':Nat)(pl:Bool)(w:World)(ok ok':Nat→Prop),laP (.mk k a nm n s ls args)<N →
  laP (.mk k a nm n s ls args)≤1099511627776→Bf w ok (.mk k a nm n s ls args) [vI k,vI a,vS nm,vI n,vS s,.slice A5 ls.length cc5,.slice A6 args.length cc6]→Bf w ok' (.mk k a' nm n s ls args') [vI k,vI a',vS nm,vI n,vS s,.slice A5' ls.length cc5',.slice A6' args.length cc6']→SL Db args args'→(pl=true→a=a'∧args=args')→
  Calls prog 25 #[.agg #[vI k,vI a,vS nm,vI n,vS s,.slice A5 ls.length cc5,.slice A6 args.length cc6],.agg #[vI k,vI a',vS nm,vI n,vS s,.slice A5' ls.length cc5',.slice A6' args.length cc6'],.bool pl] w fun e w'=>e = .returned (.bool true)∧Fr [] w w'
theorem Of(N:Nat)(ih:SMP N):SMP (N+1):=by
 intro k a a' nm n s ls args args' A5 A5' cc5 cc5' A6 A6' cc6 cc6' pl w ok ok' hN hz hx hy hS hp
 cases hx with
 | mk c5 c6 h5 e5 h6 e6 =>
 cases hy with
 | mk d5 d6 h5' e5' h6' e6' =>
 rw[← hS.1] at h6';have hsz:laP (.mk k a nm n s ls args)=1+ls.length+Fp args:=by simp[laP]
 rw[hsz] at hN hz;have hm6:(args.length:Int)≤1099511627776:=by have:=laPs_ge args;omega
 have hm5:(ls.length:Int)≤1099511627776:=by omega
 have IH:=Hz ih;have H6:=Hz h6;have H6':=Hz h6';have E6:Hid (∀ (i:Nat) (x:Av),args[i]?=some x→Bf w ok x (c6 i)):=Hz e6;have E6':Hid (∀ (i:Nat) (x:Av),args'[i]?=some x→Bf w ok' x (d6 i)):=Hz e6';have HS:=Hz hS;have HP:=Hz hp;have cT:=fun W (hW:Fr [] w W)=>Hz (Il ls (by omega) A5 A5' cc5 cc5' W (h5.keep (ok':=ok) (Sh.of_fr hW (fun b hb _=>⟨hb,fun x=>by cases x⟩))) e5 (h5'.keep (ok':=ok') (Sh.of_fr hW (fun b hb _=>⟨hb,fun x=>by cases x⟩))) e5')
 clear ih h5 e5 h6 e6 h5' e5' h6' e6' hS hp;have f0:Fr [] w ((w.alloc (.cells #[vI k,vI a,vS nm,vI n,vS s,.slice A5 ls.length cc5,.slice A6 args.length cc6] 62)).alloc (.cells #[vI k,vI a',vS nm,vI n,vS s,.slice A5' ls.length cc5',.slice A6' args.length cc6'] 62)):=((Fr.refl [] w).alloc _).alloc _;have q3:=Ad (Ab w (.cells #[vI k,vI a,vS nm,vI n,vS s,.slice A5 ls.length cc5,.slice A6 args.length cc6] 62)) (.cells #[vI k,vI a',vS nm,vI n,vS s,.slice A5' ls.length cc5',.slice A6' args.length cc6'] 62);have q4:=Ab (w.alloc (.cells #[vI k,vI a,vS nm,vI n,vS s,.slice A5 ls.length cc5,.slice A6 args.length cc6] 62)) (.cells #[vI k,vI a',vS nm,vI n,vS s,.slice A5' ls.length cc5',.slice A6' args.length cc6'] 62);have hs1:(w.alloc (.cells #[vI k,vI a,vS nm,vI n,vS s,.slice A5 ls.length cc5,.slice A6 args.length cc6] 62)).heap.size=w.heap.size+1:=by simp
 rw[hs1] at q4;have hs2:((w.alloc (.cells #[vI k,vI a,vS nm,vI n,vS s,.slice A5 ls.length cc5,.slice A6 args.length cc6] 62)).alloc (.cells #[vI k,vI a',vS nm,vI n,vS s,.slice A5' ls.length cc5',.slice A6' args.length cc6'] 62)).heap.size=w.heap.size+2:=by simp
 have HQ3:=Hz q3;have HQ4:=Hz q4;clear q3 q4 hs1;have hpl:pl=true→a=a':=fun h=>(HP.out h).1
 cases pl with
 | true =>
  obtain rfl:=hpl rfl;clear hpl;go_enter func25,ntmps25;go_wp2_with fail;refine(cT _ f0).out.mono ?_;rintro e w1 ⟨rfl,f1⟩;clear cT;have f:=f0.trans f1;have q3:=f1.keep HQ3.out (fun x=>by cases x);have q4:=f1.keep HQ4.out (fun x=>by cases x);have hT2:w.heap.size+2≤w1.heap.size:=by have:=f1.size;omega
  clear f0 f1 HQ3 HQ4 hs2;have t6:w1.cell? ⟨w.heap.size,6,none⟩=some (.slice A6 args.length cc6):=Af q3 6;have t6':w1.cell? ⟨w.heap.size+1,6,none⟩=some (.slice A6' args.length cc6'):=Af q4 6;have hTa:w.heap.size<w1.heap.size:=by omega
  have hTb:w.heap.size+1<w1.heap.size:=by omega
  go_wp2_with fail;clear t6 t6' hTa hTb
  go_loopw [7] (fun iv wr=>∃ i:Nat,iv=vI i∧i≤args.length∧Fr [] w1 wr) (fun iv wr=>args.length-(intOf iv).toNat)
  case atStart=>exact⟨0,rfl,by omega,Fr.refl _ _⟩
  case round =>
   obtain⟨i,rfl,hi,fr⟩:=hrel;have q3:=fr.keep q3 nE;have q4:=fr.keep q4 nE;have f:=f.trans fr;have hTw:w.heap.size+2≤wr.heap.size:=by have:=fr.size;omega
   generalize hT:w.heap.size=T at *
   have t6:wr.cell? ⟨T,6,none⟩=some (.slice A6 args.length cc6):=Af q3 6;have t6':wr.cell? ⟨T+1,6,none⟩=some (.slice A6' args.length cc6'):=Af q4 6;have hTa:T<wr.heap.size:=by omega
   have hTb:T+1<wr.heap.size:=by omega
   by_cases hlt:i<args.length
   ·obtain⟨g,og,rfl,_,hg,_,_,hc⟩:=H6.out.row hlt;obtain⟨g',og',rfl,_,hg',_,_,hc'⟩:=H6'.out.row hlt
    obtain⟨x,hx⟩:∃ x,args[i]?=some x:=⟨args[i],Lg' hlt⟩
    obtain⟨y,hy⟩:∃ y,args'[i]?=some y:=⟨args'[i]'(by rw[← HS.out.1];exact hlt),Lg' _⟩
    have hxy:=HS.out.2 i x y hx hy
    have hpx:(true:Bool)=true→x=y:=fun h=>by
     have:=(HP.out (by first|exact h|trivial|simp)).2;rw[this,hy] at hx;exact(Option.some.inj hx).symm
    have hxx:=E6.out i x hx;have hyy:=E6'.out i y hy;have hzx:=Mh hx;clear hx hy
    generalize c6 i=ci at *
    generalize d6 i=di at *
    have hxw:=hxx.keep (w':=wr) (ok':=ok) (Sh.of_fr f (fun b hb _=>⟨hb,fun x=>by cases x⟩));have hyw:=hyy.keep (w':=wr) (ok':=ok') (Sh.of_fr f (fun b hb _=>⟨hb,fun x=>by cases x⟩))
    cases hxy with
    | @mk k2 a2 a2' nm2 n2 s2 ls2 args2 args2' hl2 hh2 =>
    cases hxx with
    | mk _ _ r5 _ r6 _ =>
    cases hyy with
    | mk _ _ r5' _ r6' _ =>
    have hf:∀ {v:Value} {n size:Nat} {cs:Nat→List Value} {o:Nat→Prop},D4 w o v n size cs→∃ A c,v = .slice A n c:=fun h=>h.form
    obtain⟨A52,cc52,rfl⟩:=hf r5;obtain⟨A62,cc62,rfl⟩:=hf r6;obtain⟨A52',cc52',rfl⟩:=hf r5';obtain⟨A62',cc62',rfl⟩:=hf r6';clear hf r5 r6 r5' r6';rw[← hl2] at hc' hyw;have x0:wr.cell? ⟨g,og+i * 7,none⟩=some (vI k2):=(f.cell (p:=⟨g,og+i * 7,none⟩) hg (fun x=>by cases x)).trans (hc 0 _ rfl);have x1:wr.cell? ⟨g,og+i * 7+1,none⟩=some (vI a2):=(f.cell (p:=⟨g,og+i * 7+1,none⟩) hg (fun x=>by cases x)).trans (hc 1 _ rfl);have x2:wr.cell? ⟨g,og+i * 7+2,none⟩=some (vS nm2):=(f.cell (p:=⟨g,og+i * 7+2,none⟩) hg (fun x=>by cases x)).trans (hc 2 _ rfl);have x3:wr.cell? ⟨g,og+i * 7+3,none⟩=some (vI n2):=(f.cell (p:=⟨g,og+i * 7+3,none⟩) hg (fun x=>by cases x)).trans (hc 3 _ rfl);have x4:wr.cell? ⟨g,og+i * 7+4,none⟩=some (vS s2):=(f.cell (p:=⟨g,og+i * 7+4,none⟩) hg (fun x=>by cases x)).trans (hc 4 _ rfl);have x5:wr.cell? ⟨g,og+i * 7+5,none⟩=some (.slice A52 ls2.length cc52):=(f.cell (p:=⟨g,og+i * 7+5,none⟩) hg (fun x=>by cases x)).trans (hc 5 _ rfl);have x6:wr.cell? ⟨g,og+i * 7+6,none⟩=some (.slice A62 args2.length cc62):=(f.cell (p:=⟨g,og+i * 7+6,none⟩) hg (fun x=>by cases x)).trans (hc 6 _ rfl);have y0:wr.cell? ⟨g',og'+i * 7,none⟩=some (vI k2):=(f.cell (p:=⟨g',og'+i * 7,none⟩) hg' (fun x=>by cases x)).trans (hc' 0 _ rfl);have y1:wr.cell? ⟨g',og'+i * 7+1,none⟩=some (vI a2'):=(f.cell (p:=⟨g',og'+i * 7+1,none⟩) hg' (fun x=>by cases x)).trans (hc' 1 _ rfl);have y2:wr.cell? ⟨g',og'+i * 7+2,none⟩=some (vS nm2):=(f.cell (p:=⟨g',og'+i * 7+2,none⟩) hg' (fun x=>by cases x)).trans (hc' 2 _ rfl);have y3:wr.cell? ⟨g',og'+i * 7+3,none⟩=some (vI n2):=(f.cell (p:=⟨g',og'+i * 7+3,none⟩) hg' (fun x=>by cases x)).trans (hc' 3 _ rfl);have y4:wr.cell? ⟨g',og'+i * 7+4,none⟩=some (vS s2):=(f.cell (p:=⟨g',og'+i * 7+4,none⟩) hg' (fun x=>by cases x)).trans (hc' 4 _ rfl);have y5:wr.cell? ⟨g',og'+i * 7+5,none⟩=some (.slice A52' ls2.length cc52'):=(f.cell (p:=⟨g',og'+i * 7+5,none⟩) hg' (fun x=>by cases x)).trans (hc' 5 _ rfl);have y6:wr.cell? ⟨g',og'+i * 7+6,none⟩=some (.slice A62' args2.length cc62'):=(f.cell (p:=⟨g',og'+i * 7+6,none⟩) hg' (fun x=>by cases x)).trans (hc' 6 _ rfl);clear hc hc';have hgw:g<wr.heap.size:=Nl' hg f.size;have hgw':g' < wr.heap.size:=Nl' hg' f.size;have cP:=Hz (IH.out k2 a2 a2' nm2 n2 s2 ls2 args2 args2' A52 A52' cc52 cc52' A62 A62' cc62 cc62' true wr.drew ok ok' (by omega) (by omega) (hxw.keep (Sh.of_fr (Fr.refl [] wr).drew (fun b hb _=>⟨hb,fun x=>by cases x⟩))) (by rw[hl2];have:=hyw.keep (w':=wr.drew) (ok':=ok') (Sh.of_fr (Fr.refl [] wr).drew (fun b hb _=>⟨hb,fun x=>by cases x⟩));rw[hl2] at this;exact this) ⟨hl2,hh2⟩ (fun h=>by have:=hpx h;cases this;exact⟨rfl,rfl⟩));clear hxw hyw hpx hzx;have q1:(0:Int)≤(i:Int):=by omega
    have q2:(i:Int)<(args.length:Int):=by omega
    have HH:=Hz hh2;have HL2:=Hz hl2;clear hh2 hl2;go_wp2_with fail
    go_region_held3 (fun w'=>w'.cell? ⟨T,6,none⟩=some (.slice (some ⟨g,og,none⟩) args.length cc6)∧w'.cell? ⟨T+1,6,none⟩=some (.slice (some ⟨g',og',none⟩) args.length cc6')∧(w'.cell? ⟨g,og+i * 7,none⟩=some (vI k2)∧w'.cell? ⟨g,og+i * 7+1,none⟩=some (vI a2)∧w'.cell? ⟨g,og+i * 7+2,none⟩=some (vS nm2)∧w'.cell? ⟨g,og+i * 7+3,none⟩=some (vI n2)∧w'.cell? ⟨g,og+i * 7+4,none⟩=some (vS s2)∧w'.cell? ⟨g,og+i * 7+5,none⟩=some (.slice A52 ls2.length cc52)∧w'.cell? ⟨g,og+i * 7+6,none⟩=some (.slice A62 args2.length cc62))∧(w'.cell? ⟨g',og'+i * 7,none⟩=some (vI k2)∧w'.cell? ⟨g',og'+i * 7+1,none⟩=some (vI a2')∧w'.cell? ⟨g',og'+i * 7+2,none⟩=some (vS nm2)∧w'.cell? ⟨g',og'+i * 7+3,none⟩=some (vI n2)∧w'.cell? ⟨g',og'+i * 7+4,none⟩=some (vS s2)∧w'.cell? ⟨g',og'+i * 7+5,none⟩=some (.slice A52' ls2.length cc52')∧w'.cell? ⟨g',og'+i * 7+6,none⟩=some (.slice A62' args2.length cc62'))) (first|go_keep|exact⟨t6,t6',⟨x0,x1,x2,x3,x4,x5,x6⟩,y0,y1,y2,y3,y4,y5,y6⟩) (((with_reducible refine cP.out.mono ?_);rintro e w3 ⟨rfl,f3⟩;have t6:=kc (w:=wr.drew) f3 t6 hTa;have t6':=kc (w:=wr.drew) f3 t6' hTb;have x0:=kc (w:=wr.drew) f3 x0 hgw;have y0:=kc (w:=wr.drew) f3 y0 hgw';have x1:=kc (w:=wr.drew) f3 x1 hgw;have y1:=kc (w:=wr.drew) f3 y1 hgw';have x2:=kc (w:=wr.drew) f3 x2 hgw;have y2:=kc (w:=wr.drew) f3 y2 hgw';have x3:=kc (w:=wr.drew) f3 x3 hgw;have y3:=kc (w:=wr.drew) f3 y3 hgw';have x4:=kc (w:=wr.drew) f3 x4 hgw;have y4:=kc (w:=wr.drew) f3 y4 hgw';have x5:=kc (w:=wr.drew) f3 x5 hgw;have y5:=kc (w:=wr.drew) f3 y5 hgw';have x6:=kc (w:=wr.drew) f3 x6 hgw;have y6:=kc (w:=wr.drew) f3 y6 hgw'))
    go_wp2_with fail
    go_roundw
    case rel=>exact⟨i+1,by simp,by omega,fr.trans (((Fr.refl [] wr).drew).trans f3)⟩
    case measure=>simp[intOf];omega
   ·have ei:i=args.length:=by omega
    subst ei;go_wp2_with fail;go_ret
    exact⟨rfl,f⟩
 | false =>
  clear hpl;go_enter func25,ntmps25;go_wp2_with fail;refine(cT _ f0).out.mono ?_;rintro e w1 ⟨rfl,f1⟩;clear cT;have f:=f0.trans f1;have q3:=f1.keep HQ3.out (fun x=>by cases x);have q4:=f1.keep HQ4.out (fun x=>by cases x);have hT2:w.heap.size+2≤w1.heap.size:=by have:=f1.size;omega
  clear f0 f1 HQ3 HQ4 hs2;have t6:w1.cell? ⟨w.heap.size,6,none⟩=some (.slice A6 args.length cc6):=Af q3 6;have t6':w1.cell? ⟨w.heap.size+1,6,none⟩=some (.slice A6' args.length cc6'):=Af q4 6;have hTa:w.heap.size<w1.heap.size:=by omega
  have hTb:w.heap.size+1<w1.heap.size:=by omega
  go_wp2_with fail;clear t6 t6' hTa hTb
  go_loopw [7] (fun iv wr=>∃ i:Nat,iv=vI i∧i≤args.length∧Fr [] w1 wr) (fun iv wr=>args.length-(intOf iv).toNat)
  case atStart=>exact⟨0,rfl,by omega,Fr.refl _ _⟩
  case round =>
   obtain⟨i,rfl,hi,fr⟩:=hrel;have q3:=fr.keep q3 nE;have q4:=fr.keep q4 nE;have f:=f.trans fr;have hTw:w.heap.size+2≤wr.heap.size:=by have:=fr.size;omega
   generalize hT:w.heap.size=T at *
   have t6:wr.cell? ⟨T,6,none⟩=some (.slice A6 args.length cc6):=Af q3 6;have t6':wr.cell? ⟨T+1,6,none⟩=some (.slice A6' args.length cc6'):=Af q4 6;have hTa:T<wr.heap.size:=by omega
   have hTb:T+1<wr.heap.size:=by omega
   by_cases hlt:i<args.length
   ·obtain⟨g,og,rfl,_,hg,_,_,hc⟩:=H6.out.row hlt;obtain⟨g',og',rfl,_,hg',_,_,hc'⟩:=H6'.out.row hlt
    obtain⟨x,hx⟩:∃ x,args[i]?=some x:=⟨args[i],Lg' hlt⟩
    obtain⟨y,hy⟩:∃ y,args'[i]?=some y:=⟨args'[i]'(by rw[← HS.out.1];exact hlt),Lg' _⟩
    have hxy:=HS.out.2 i x y hx hy
    have hpx:(false:Bool)=true→x=y:=fun h=>by
     have:=(HP.out (by first|exact h|trivial|simp)).2;rw[this,hy] at hx;exact(Option.some.inj hx).symm
    have hxx:=E6.out i x hx;have hyy:=E6'.out i y hy;have hzx:=Mh hx;clear hx hy
    generalize c6 i=ci at *
    generalize d6 i=di at *
    have hxw:=hxx.keep (w':=wr) (ok':=ok) (Sh.of_fr f (fun b hb _=>⟨hb,fun x=>by cases x⟩));have hyw:=hyy.keep (w':=wr) (ok':=ok') (Sh.of_fr f (fun b hb _=>⟨hb,fun x=>by cases x⟩))
    cases hxy with
    | @mk k2 a2 a2' nm2 n2 s2 ls2 args2 args2' hl2 hh2 =>
    cases hxx with
    | mk _ _ r5 _ r6 _ =>
    cases hyy with
    | mk _ _ r5' _ r6' _ =>
    have hf:∀ {v:Value} {n size:Nat} {cs:Nat→List Value} {o:Nat→Prop},D4 w o v n size cs→∃ A c,v = .slice A n c:=fun h=>h.form
    obtain⟨A52,cc52,rfl⟩:=hf r5;obtain⟨A62,cc62,rfl⟩:=hf r6;obtain⟨A52',cc52',rfl⟩:=hf r5';obtain⟨A62',cc62',rfl⟩:=hf r6';clear hf r5 r6 r5' r6';rw[← hl2] at hc' hyw;have x0:wr.cell? ⟨g,og+i * 7,none⟩=some (vI k2):=(f.cell (p:=⟨g,og+i * 7,none⟩) hg (fun x=>by cases x)).trans (hc 0 _ rfl);have x1:wr.cell? ⟨g,og+i * 7+1,none⟩=some (vI a2):=(f.cell (p:=⟨g,og+i * 7+1,none⟩) hg (fun x=>by cases x)).trans (hc 1 _ rfl);have x2:wr.cell? ⟨g,og+i * 7+2,none⟩=some (vS nm2):=(f.cell (p:=⟨g,og+i * 7+2,none⟩) hg (fun x=>by cases x)).trans (hc 2 _ rfl);have x3:wr.cell? ⟨g,og+i * 7+3,none⟩=some (vI n2):=(f.cell (p:=⟨g,og+i * 7+3,none⟩) hg (fun x=>by cases x)).trans (hc 3 _ rfl);have x4:wr.cell? ⟨g,og+i * 7+4,none⟩=some (vS s2):=(f.cell (p:=⟨g,og+i * 7+4,none⟩) hg (fun x=>by cases x)).trans (hc 4 _ rfl);have x5:wr.cell? ⟨g,og+i * 7+5,none⟩=some (.slice A52 ls2.length cc52):=(f.cell (p:=⟨g,og+i * 7+5,none⟩) hg (fun x=>by cases x)).trans (hc 5 _ rfl);have x6:wr.cell? ⟨g,og+i * 7+6,none⟩=some (.slice A62 args2.length cc62):=(f.cell (p:=⟨g,og+i * 7+6,none⟩) hg (fun x=>by cases x)).trans (hc 6 _ rfl);have y0:wr.cell? ⟨g',og'+i * 7,none⟩=some (vI k2):=(f.cell (p:=⟨g',og'+i * 7,none⟩) hg' (fun x=>by cases x)).trans (hc' 0 _ rfl);have y1:wr.cell? ⟨g',og'+i * 7+1,none⟩=some (vI a2'):=(f.cell (p:=⟨g',og'+i * 7+1,none⟩) hg' (fun x=>by cases x)).trans (hc' 1 _ rfl);have y2:wr.cell? ⟨g',og'+i * 7+2,none⟩=some (vS nm2):=(f.cell (p:=⟨g',og'+i * 7+2,none⟩) hg' (fun x=>by cases x)).trans (hc' 2 _ rfl);have y3:wr.cell? ⟨g',og'+i * 7+3,none⟩=some (vI n2):=(f.cell (p:=⟨g',og'+i * 7+3,none⟩) hg' (fun x=>by cases x)).trans (hc' 3 _ rfl);have y4:wr.cell? ⟨g',og'+i * 7+4,none⟩=some (vS s2):=(f.cell (p:=⟨g',og'+i * 7+4,none⟩) hg' (fun x=>by cases x)).trans (hc' 4 _ rfl);have y5:wr.cell? ⟨g',og'+i * 7+5,none⟩=some (.slice A52' ls2.length cc52'):=(f.cell (p:=⟨g',og'+i * 7+5,none⟩) hg' (fun x=>by cases x)).trans (hc' 5 _ rfl);have y6:wr.cell? ⟨g',og'+i * 7+6,none⟩=some (.slice A62' args2.length cc62'):=(f.cell (p:=⟨g',og'+i * 7+6,none⟩) hg' (fun x=>by cases x)).trans (hc' 6 _ rfl);clear hc hc';have hgw:g<wr.heap.size:=Nl' hg f.size;have hgw':g' < wr.heap.size:=Nl' hg' f.size;have cP:=Hz (IH.out k2 a2 a2' nm2 n2 s2 ls2 args2 args2' A52 A52' cc52 cc52' A62 A62' cc62 cc62' false wr.drew ok ok' (by omega) (by omega) (hxw.keep (Sh.of_fr (Fr.refl [] wr).drew (fun b hb _=>⟨hb,fun x=>by cases x⟩))) (by rw[hl2];have:=hyw.keep (w':=wr.drew) (ok':=ok') (Sh.of_fr (Fr.refl [] wr).drew (fun b hb _=>⟨hb,fun x=>by cases x⟩));rw[hl2] at this;exact this) ⟨hl2,hh2⟩ (fun h=>by have:=hpx h;cases this;exact⟨rfl,rfl⟩));clear hxw hyw hpx hzx;have q1:(0:Int)≤(i:Int):=by omega
    have q2:(i:Int)<(args.length:Int):=by omega
    have HH:=Hz hh2;have HL2:=Hz hl2;clear hh2 hl2;go_wp2_with fail
    go_region_held3 (fun w'=>w'.cell? ⟨T,6,none⟩=some (.slice (some ⟨g,og,none⟩) args.length cc6)∧w'.cell? ⟨T+1,6,none⟩=some (.slice (some ⟨g',og',none⟩) args.length cc6')∧(w'.cell? ⟨g,og+i * 7,none⟩=some (vI k2)∧w'.cell? ⟨g,og+i * 7+1,none⟩=some (vI a2)∧w'.cell? ⟨g,og+i * 7+2,none⟩=some (vS nm2)∧w'.cell? ⟨g,og+i * 7+3,none⟩=some (vI n2)∧w'.cell? ⟨g,og+i * 7+4,none⟩=some (vS s2)∧w'.cell? ⟨g,og+i * 7+5,none⟩=some (.slice A52 ls2.length cc52)∧w'.cell? ⟨g,og+i * 7+6,none⟩=some (.slice A62 args2.length cc62))∧(w'.cell? ⟨g',og'+i * 7,none⟩=some (vI k2)∧w'.cell? ⟨g',og'+i * 7+1,none⟩=some (vI a2')∧w'.cell? ⟨g',og'+i * 7+2,none⟩=some (vS nm2)∧w'.cell? ⟨g',og'+i * 7+3,none⟩=some (vI n2)∧w'.cell? ⟨g',og'+i * 7+4,none⟩=some (vS s2)∧w'.cell? ⟨g',og'+i * 7+5,none⟩=some (.slice A52' ls2.length cc52')∧w'.cell? ⟨g',og'+i * 7+6,none⟩=some (.slice A62' args2.length cc62'))) (first|go_keep|exact⟨t6,t6',⟨x0,x1,x2,x3,x4,x5,x6⟩,y0,y1,y2,y3,y4,y5,y6⟩) (((with_reducible refine cP.out.mono ?_);rintro e w3 ⟨rfl,f3⟩;have t6:=kc (w:=wr.drew) f3 t6 hTa;have t6':=kc (w:=wr.drew) f3 t6' hTb;have x0:=kc (w:=wr.drew) f3 x0 hgw;have y0:=kc (w:=wr.drew) f3 y0 hgw';have x1:=kc (w:=wr.drew) f3 x1 hgw;have y1:=kc (w:=wr.drew) f3 y1 hgw';have x2:=kc (w:=wr.drew) f3 x2 hgw;have y2:=kc (w:=wr.drew) f3 y2 hgw';have x3:=kc (w:=wr.drew) f3 x3 hgw;have y3:=kc (w:=wr.drew) f3 y3 hgw';have x4:=kc (w:=wr.drew) f3 x4 hgw;have y4:=kc (w:=wr.drew) f3 y4 hgw';have x5:=kc (w:=wr.drew) f3 x5 hgw;have y5:=kc (w:=wr.drew) f3 y5 hgw';have x6:=kc (w:=wr.drew) f3 x6 hgw;have y6:=kc (w:=wr.drew) f3 y6 hgw'))
    go_wp2_with fail
    go_roundw
    case rel=>exact⟨i+1,by simp,by omega,fr.trans (((Fr.refl [] wr).drew).trans f3)⟩
    case measure=>simp[intOf];omega
   ·have ei:i=args.length:=by omega
    subst ei;go_wp2_with fail;go_ret;exact⟨rfl,f⟩
theorem Ik:∀ N,SMP N
 | 0=>fun _ _ _ _ _ _ _ _ _ _ _ _ _ _ _ _ _ _ _ _ _ h=>absurd h (Nat.not_lt_zero _)
 | N+1=>Of N (Ik N)
end
theorem Hx:∀ (l l':List Av)(d:Nat),l.length=l'.length→(∀ (i:Nat)(x y:Av),l[i]?=some x→l'[i]?=some y→∀ d,(Ba x d).map Prod.snd=(Ba y d).map Prod.snd)→(B1 l d).map Prod.snd=(B1 l' d).map Prod.snd
 | [],[],d,_,_=>rfl
 | [],_::_,d,h,_=>by simp at h
 | _::_,[],d,h,_=>by simp at h
 | x::l,y::l',d,hl,h=>by
  rw[B1,B1,List.map_append,List.map_append,h 0 x y rfl rfl d,Hx l l' d (by simpa using hl) (fun i x y hx hy=>h (i+1) x y (by simpa using hx) (by simpa using hy))]
theorem Hw:∀ (l l':List Ah)(d:Nat),l.length=l'.length→(∀ (i:Nat)(x y:Ah),l[i]?=some x→l'[i]?=some y→∀ d,(A9 x d).map Prod.snd=(A9 y d).map Prod.snd)→(B0 l d).map Prod.snd=(B0 l' d).map Prod.snd
 | [],[],d,_,_=>rfl
 | [],_::_,d,h,_=>by simp at h
 | _::_,[],d,h,_=>by simp at h
 | x::l,y::l',d,hl,h=>by
  rw[B0,B0,List.map_append,List.map_append,h 0 x y rfl rfl d,Hw l l' d (by simpa using hl) (fun i x y hx hy=>h (i+1) x y (by simpa using hx) (by simpa using hy))]
theorem Hv:∀ (l l':List (Av×Ah))(d:Nat),l.length=l'.length→(∀ (i:Nat)(p p':Av)(x y:Ah),l[i]?=some (p,x)→l'[i]?=some (p',y)→∀ d,(Ba p d).map Prod.snd=(Ba p' d).map Prod.snd)→
  (∀ (i:Nat) (p p':Av) (x y:Ah),l[i]?=some (p,x)→l'[i]?=some (p',y)→∀ d,(A9 x d).map Prod.snd=(A9 y d).map Prod.snd)→(Bh l d).map Prod.snd=(Bh l' d).map Prod.snd
 | [],[],d,_,_,_=>rfl
 | [],_::_,d,h,_,_=>by simp at h
 | _::_,[],d,h,_,_=>by simp at h
 | (p,x)::l,(p',y)::l',d,hl,hp,h=>by
  rw[Bh,Bh,List.map_append,List.map_append,Hv l l' d (by simpa using hl) (fun i p p' x y hx hy=>hp (i+1) p p' x y (by simpa using hx) (by simpa using hy)) (fun i p p' x y hx hy=>h (i+1) p p' x y (by simpa using hx) (by simpa using hy)),
   Ii,Ii,List.map_append,List.map_append,hp 0 p p' x y rfl rfl d,h 0 p p' x y rfl rfl d]
theorem Db.parts{x y:Av}(h:Db x y):∀ d,(Ba x d).map Prod.snd=(Ba y d).map Prod.snd:=by
 induction h with
 | mk hl h ih=>intro d;rw[Gw,Gw,List.map_cons,List.map_cons,Hx _ _ (d+1) hl ih]
theorem A8.parts{x y:Ah}(h:A8 x y):∀ d,(A9 x d).map Prod.snd=(A9 y d).map Prod.snd:=by
 induction h with
 | mk hl h hl2 hp hx ih ih2 =>
  intro d;rw[Gv,Gv,List.map_cons,List.map_cons,List.map_append,List.map_append,Hw _ _ (d+1) hl ih,Hv _ _ (d+1) hl2 (fun i p p' x y h1 h2=>(hp i p p' x y h1 h2).parts) ih2]
theorem A8.sz{x y:Ah}(h:A8 x y):szE y=szE x:=by
 have:=congrArg List.length (h.parts 1);rw[List.length_map,List.length_map,Fc,Fc] at this;exact this.symm
theorem A8.deep{x y:Ah}(h:A8 x y)(m:Int):D5 m x=none↔D5 m y=none:=by
 have key:∀ x,D5 m x=none↔∀ d ∈ (A9 x 1).map Prod.snd,¬ m<(d:Int):=fun x=>by
  unfold D5;rw[List.find?_eq_none];simp;exact⟨fun h d a=>h a d,fun h a d=>h d a⟩
 rw[key,key,h.parts 1]
theorem Kp:A8 .zero .zero:=sEl
end Go.Proofs.YtpjkfeehgookkaaGreatDoor
