/- A part of the proof: P1, P2, P3, Wa, WbC, WcC, P7. -/
import Derived.Deep.RegionHeld3
import Derived.RegionTactic
import Derived.ChangeAlike
import Derived.BigRegion
import Derived.BigQuiet
import Derived.Deep.QuietTactic
import Derived.Deep.DrawnRows
import Derived.Test.YtabhpdhajajoiaaGreatDoorEb6
namespace Go.Proofs.YtabhpdhajajoiaaGreatDoor
open Go.RowKit
open _root_.Go.Proofs.Tryz
set_option linter.all false
set_option maxHeartbeats 16000000
set_option maxRecDepth 100000
open List renaming getElem?_eq_getElem→Lg',append_assoc→Ls'
open Nat renaming lt_of_lt_of_le→Nl'
open Bool renaming and_eq_true→Ba'
def E4(g:Nat)(l:List LB)(w:World):Prop:=∀ (i:Nat)(x:LB),l[i]?=some x→w.cell? ⟨g,i,none⟩=some (vS x)
def IdxP(b:Bool)(w:World)(e:Ending)(w':World):Prop:=∃ n:Int,e = .returned (vI n)∧decide (0≤n)=b∧w=w'
theorem Zc(g c:Nat)(l:List LB)(x:ByteArray)(hl:l.length≤1000)(w:World)(h:E4 g l w):
  Calls prog 151 #[.slice (some ⟨g,0,none⟩) l.length c,.string x] w (IdxP (l.contains x.data.toList) w):=by
 have HX:Hid (∀ j (hj:j<l.length),l[j]=x.data.toList→l.contains x.data.toList=true):=Hz (fun j hj e=>List.contains_iff_mem.2 (e ▸ List.getElem_mem hj))
 have HN:Hid ((∀ j (hj:j<l.length),l[j]≠x.data.toList)→l.contains x.data.toList=false):=Hz (fun hn=>by
  rw[Bool.eq_false_iff]
  intro hc
  obtain⟨j,hj,e⟩:=List.mem_iff_getElem.1 (List.contains_iff_mem.1 hc)
  exact hn j hj e)
 generalize l.contains x.data.toList=R at *
 have HC:=Hz h;clear h;go_enter func151,ntmps151;go_wp2_with fail
 go_loop [8] (fun i=>∃ k:Nat,i=vI k∧k≤l.length∧Hid (∀ j (hj:j<l.length),j<k→l[j]≠x.data.toList)) (fun i=>l.length-(intOf i).toNat)
 case atStart=>exact⟨0,rfl,by omega,Hz (fun j _ h=>absurd h (by omega))⟩
 case round =>
  obtain⟨k,rfl,hk,HK⟩:=hrel;by_cases hlt:k<l.length
  ·have hcell:=HC.out k _ (Lg' hlt);have HX1:=Hz (HX.out k hlt)
   have HS:l[k]≠x.data.toList→Hid (∀ j (hj:j<l.length),j<k+1→l[j]≠x.data.toList):=fun hne=>Hz (fun j hj h=>by
    rcases Nat.lt_or_ge j k with h1|h1
    ·exact HK.out j hj h1
    ·have:j=k:=by omega
     subst this;exact hne)
   by_cases hq:l[k]=x.data.toList
   ·have hR:=HX1.out hq;subst hR;have hq2:(x.toList==l[k])=true:=by rw[ByteArray.toList_eq,hq];simp
    clear hq HX HN HS HX1 HK
    generalize l[k]=y at *
    go_wp2_with fail;go_ret;exact⟨k,rfl,by simp,rfl⟩
   ·have HS2:=HS hq;have hq2:(x.toList==l[k])=false:=by rw[ByteArray.toList_eq,bN];exact fun h=>hq h.symm
    clear hq HS HX1
    generalize l[k]=y at *
    go_wp2_with fail
    go_round
    case rel=>exact⟨k+1,by go_num,by omega,HS2⟩
    case measure=>simp[intOf];omega
  ·have hR:=HN.out (fun j hj=>HK.out j hj (by omega));subst hR;go_wp2_with fail;go_ret;exact⟨-1,rfl,by decide,rfl⟩
theorem Oy(g c:Nat)(l:List LB)(x:ByteArray)(hl:l.length≤1000)(w:World)(h:E4 g l w):
  Calls prog 126 #[.slice (some ⟨g,0,none⟩) l.length c,.string x] w fun e w'=>e = .returned (.bool (l.contains x.data.toList))∧w=w':=by
 have ci:=Hz (Zc g c l x hl w h)
 generalize l.contains x.data.toList=R at *
 clear h;go_enter func126,ntmps126;go_wp2_with fail;refine ci.out.mono ?_;rintro e w1 ⟨n,rfl,rfl,rfl⟩;go_wp2_with fail;go_ret;exact⟨rfl,rfl⟩
structure PSt (P g c:Nat)(ts:List Tok)(st:St)(w:World):Prop where
 blk:w.heap[P]?=some (.cells #[.slice (some ⟨g,0,none⟩) ts.length c,vI (st.i:Nat),.bool st.ok] 76 (0,0))
 rt:RT g ts w
 lt:g<w.heap.size
 ne:g≠P
 inb:st.i<ts.length
theorem PSt.fr{P g c:Nat}{ts:List Tok}{st:St}{w w':World}(h:PSt P g c ts st w)(hf:Fr [] w w'):PSt P g c ts st w' :=
 ⟨hf.keep h.blk (fun x=>by cases x),h.rt.fr hf h.lt,Nl' h.lt hf.size,h.ne,h.inb⟩
theorem RT.frL{g:Nat}{ts:List Tok}{w w':World}{L:List Nat}(h:RT g ts w)(hf:Fr L w w')(hg:g<w.heap.size)(hn:g ∉ L):RT g ts w' :=
 ⟨fun k t hk=>(hf.cell (p:=⟨g,k * 4,none⟩) hg hn).trans (h.c0 k t hk),fun k t hk=>(hf.cell (p:=⟨g,k * 4+1,none⟩) hg hn).trans (h.c1 k t hk),fun k t hk=>(hf.cell (p:=⟨g,k * 4+2,none⟩) hg hn).trans (h.c2 k t hk),fun k t hk=>(hf.cell (p:=⟨g,k * 4+3,none⟩) hg hn).trans (h.c3 k t hk)⟩
def B8(ts:List Tok):Prop:=ts.length≤4097∧∀ (i:Nat)(t:Tok),ts[i]?=some t→(t.k≠0↔i+1<ts.length)∧Yc 4096 t
theorem Ep{x:World}{B:Nat}{T:TypeId}{a b c:Value}(h:x.heap[B]?=some (.cells #[a,b,c] T (0,0))):
  x.cell? ⟨B,0,none⟩=some a∧x.cell? ⟨B,1,none⟩=some b∧x.cell? ⟨B,2,none⟩=some c∧x.frozen? ⟨B,0,none⟩=false∧x.frozen? ⟨B,1,none⟩=false∧x.frozen? ⟨B,2,none⟩=false :=
 ⟨Ae h 0,Ae h 1,Ae h 2,Ap h 0,Ap h 1,Ap h 2⟩
theorem B7(P g c:Nat)(ts:List Tok)(st:St)(t:Tok)(ht:ts[st.i]?=some t)(w:World)(h:PSt P g c ts st w)(hE:B8 ts):
  Calls prog 41 #[.pointer (some ⟨P,0,none⟩)] w fun e w'=>e = .returned (.agg #[vI t.k,vI t.at',.string ⟨t.text.toArray⟩,vI t.n])∧Fr [] w w':=by
 obtain⟨p0,p1,p2,_⟩:=Ep h.blk;have a0:=h.rt.c0 _ _ ht;have a1:=h.rt.c1 _ _ ht;have a2:=h.rt.c2 _ _ ht;have a3:=h.rt.c3 _ _ ht;have hin:=h.inb;have hts:=hE.1;have hP:=Aa h.blk;have hg:=h.lt;clear ht h hE;obtain⟨i,ok⟩:=st
 simp only at *
 obtain⟨tk,ta,tt,tn⟩:=t
 simp only at *
 have q1:(0:Int)≤(i:Int):=by omega
 have q2:(i:Int)<(ts.length:Int):=by omega
 go_enter func41,ntmps41;go_wp2_with fail;have f0:Fr [] w (w.alloc (.cells #[vI 0,vI 0,vE,vI 0] 79)):=(Fr.refl [] w).alloc _;have g0:=Ad w (.cells #[vI 0,vI 0,vE,vI 0] 79);have p0:=(f0.cell (p:=⟨P,0,none⟩) hP (fun x=>by cases x)).trans p0;have p1:=(f0.cell (p:=⟨P,1,none⟩) hP (fun x=>by cases x)).trans p1;have a0:=(f0.cell (p:=⟨g,i * 4,none⟩) hg (fun x=>by cases x)).trans a0;have a1:=(f0.cell (p:=⟨g,i * 4+1,none⟩) hg (fun x=>by cases x)).trans a1;have a2:=(f0.cell (p:=⟨g,i * 4+2,none⟩) hg (fun x=>by cases x)).trans a2;have a3:=(f0.cell (p:=⟨g,i * 4+3,none⟩) hg (fun x=>by cases x)).trans a3
 generalize (w.alloc (.cells #[vI 0,vI 0,vE,vI 0] 79))=w1 at *
 generalize hB:w.heap.size=B at *
 obtain⟨c0,c1,c2,c3,z0,z1,z2,z3⟩:=Ao g0;have gz:=Jf g0 (vI tk) (vI ta) (vS tt) (vI tn);have fz:=f0.store4 hB (vI tk) (vI ta) (vS tt) (vI tn);have HG:=Hz gz;have HF:=Hz fz;clear gz fz g0 f0;have n1:¬ P=B:=by omega
 have n2:¬ B=P:=by omega
 have n3:¬ g=B:=by omega
 have n4:¬ B=g:=by omega
 go_region_held3 (fun w'=>w'.cell? ⟨P,0,none⟩=some (.slice (some ⟨g,0,none⟩) ts.length c)∧w'.cell? ⟨P,1,none⟩=some (vI i)∧w'.cell? ⟨g,i * 4,none⟩=some (vI tk)∧w'.cell? ⟨g,i * 4+1,none⟩=some (vI ta)∧w'.cell? ⟨g,i * 4+2,none⟩=some (vS tt)∧w'.cell? ⟨g,i * 4+3,none⟩=some (vI tn)) (go_keep) (fail)
 generalize (((w1.setCell ⟨B,0,none⟩ (vI tk)).setCell ⟨B,1,none⟩ (vI ta)).setCell ⟨B,2,none⟩ (vS tt)).setCell ⟨B,3,none⟩ (vI tn)=Z at HG HF ⊢;obtain⟨d0,d1,d2,d3,_⟩:=Ao HG.out;go_wp2_with fail;refine bodyPost_ret (v:=.agg #[vI tk,vI ta,vS tt,vI tn]) ?_ rfl ?_
 ·simp[results,Tryz.f41,go_sem,d0,d1,d2,d3]
 ·exact⟨rfl,HF.out.drew⟩
theorem Bn{x:World}{B:Nat}{T:TypeId}{cs:Array Value}(h:x.heap[B]?=some (.cells cs T (0,0)))(i:Nat)(v:Value):(x.setCell ⟨B,i,none⟩ v).heap[B]?=some (.cells (cs.setIfInBounds i v) T (0,0)):=by
 simp[World.setCell,Array.getElem?_modify,h]
theorem PSt.set1{P g c:Nat}{ts:List Tok}{st:St}{w:World}(h:PSt P g c ts st w)(hi:st.i+1<ts.length)(n:Int)(hn:n=((st.i+1:Nat):Int)):PSt P g c ts ⟨st.i+1,st.ok⟩ (w.setCell ⟨P,1,none⟩ (vI n)):=by
 have hf:Fr [P] w (w.setCell ⟨P,1,none⟩ (vI n)):=(Fr.refl [P] w).setCell (.inl (by simp)) _;subst hn;exact⟨by have:=Bn h.blk 1 (vI ((st.i+1:Nat):Int));simpa using this,h.rt.frL hf h.lt (by simpa using h.ne),Nl' h.lt hf.size,h.ne,hi⟩
theorem PSt.set2{P g c:Nat}{ts:List Tok}{st:St}{w:World}(h:PSt P g c ts st w):PSt P g c ts ⟨st.i,false⟩ (w.setCell ⟨P,2,none⟩ (.bool false)):=by
 have hf:Fr [P] w (w.setCell ⟨P,2,none⟩ (.bool false)):=(Fr.refl [P] w).setCell (.inl (by simp)) _;exact⟨by have:=Bn h.blk 2 (.bool false);simpa using this,h.rt.frL hf h.lt (by simpa using h.ne),Nl' h.lt hf.size,h.ne,h.inb⟩
theorem PSt.own{P g c:Nat}{ts:List Tok}{st:St}{w:World}(h:PSt P g c ts st w){p:Addr}(hp:P≠p.block)(hg:g≠p.block)(v:Value):PSt P g c ts st (w.setCell p v):=by
 have hf:Fr [p.block] w (w.setCell p v):=(Fr.refl [p.block] w).setCell (.inl (by simp)) _;exact⟨hf.keep h.blk (by simpa using hp),h.rt.frL hf h.lt (by simpa using hg),Nl' h.lt hf.size,h.ne,h.inb⟩
theorem Ip(P g c:Nat)(ts:List Tok)(st:St)(w:World)(h:PSt P g c ts st w):
  Calls prog 146 #[.pointer (some ⟨P,0,none⟩)] w fun e w'=>e = .returned (.tuple #[])∧PSt P g c ts ⟨st.i,false⟩ w'∧Fr [P] w w':=by
 have h2:=Hz h.set2;have hf:Fr [P] w (w.setCell ⟨P,2,none⟩ (.bool false)):=(Fr.refl [P] w).setCell (.inl (by simp)) _;obtain⟨p0,p1,p2,y0,y1,y2⟩:=Ep h.blk;clear h;go_enter func146,ntmps146;go_wp2_with fail
 go_end0
 exact⟨rfl,h2.out,hf⟩
theorem Dw(P g c:Nat)(ts:List Tok)(st:St)(t:Tok)(ht:ts[st.i]?=some t)(hok:st.ok=true)(hk:t.k≠0)(w:World)(h:PSt P g c ts st w)(hE:B8 ts):
  Calls prog 123 #[.pointer (some ⟨P,0,none⟩)] w fun e w'=>e = .returned (.agg #[vI t.k,vI t.at',.string ⟨t.text.toArray⟩,vI t.n])∧PSt P g c ts ⟨st.i+1,st.ok⟩ w'∧Fr [P] w w':=by
 have hi1:=(hE.2 _ _ ht).1.1 hk;have cn:=fun w h=>Hz (B7 P g c ts st t ht w h hE)
 have hts:=hE.1;have hP:=Aa h.blk;have hgl:=h.lt;have H:=Hz h;clear h hE ht;obtain⟨i,ok⟩:=st;simp only at hok hi1;subst hok;obtain⟨tk,ta,tt,tn⟩:=t;simp only at hk cn ⊢;have d0:(tk != 0)=true:=by rw[bne_iff_ne];exact hk
 have d00:(tk==0)=false:=by rw[bN];exact hk
 clear hk;go_enter func123,ntmps123;go_wp2_with fail;have f0:Fr [] w (w.alloc (.cells #[vI 0,vI 0,vE,vI 0] 79)):=(Fr.refl [] w).alloc _;have g0:=Ad w (.cells #[vI 0,vI 0,vE,vI 0] 79)
 generalize (w.alloc (.cells #[vI 0,vI 0,vE,vI 0] 79))=w1 at *
 generalize hB:w.heap.size=B at *
 refine(cn _ (H.out.fr f0)).out.mono ?_;rintro e x1 ⟨rfl,f1⟩;have g1:=f1.keep g0 nE;have h1:=H.out.fr (f0.trans f1);have hP1:=Aa h1.blk;have hB1:=Aa g1;obtain⟨p0,p1,p2,y0,y1,y2⟩:=Ep h1.blk;obtain⟨c0,c1,c2,c3,z0,z1,z2,z3⟩:=Ao g1;have n1:¬ P=B:=by omega
 have n2:¬ B=P:=by omega
 have n7:¬ g=B:=by omega
 have n8:¬ P=x1.heap.size:=by omega
 have n9:¬ B=x1.heap.size:=by omega
 have g0':=(Fr.setCell (L:=[P]) (Fr.refl [P] x1) (p:=⟨P,1,none⟩) (.inl (by simp)) (vI ((i:Int)+1))).keep g1 (by simpa using n2);have HG:=Hz (Jf g0' (vI tk) (vI ta) (vS tt) (vI tn));have HP:=Hz ((((h1.set1 hi1 ((i:Int)+1) (by simp)).own (p:=⟨B,0,none⟩) n1 n7 (vI tk)).own (p:=⟨B,1,none⟩) n1 n7 (vI ta)).own (p:=⟨B,2,none⟩) n1 n7 (vS tt)|>.own (p:=⟨B,3,none⟩) n1 n7 (vI tn));have HF:=Hz (((((((f0.trans f1).mono (L':=[P]) (fun x hx=>by cases hx)).setCell (p:=⟨P,1,none⟩) (.inl (by simp)) (vI ((i:Int)+1))).setCell (p:=⟨B,0,none⟩) (.inr (by simp[hB])) (vI tk)).setCell (p:=⟨B,1,none⟩) (.inr (by simp[hB])) (vI ta)).setCell (p:=⟨B,2,none⟩) (.inr (by simp[hB])) (vS tt)).setCell (p:=⟨B,3,none⟩) (.inr (by simp[hB])) (vI tn));clear g0 g0' g1 h1 f1 f0 H;go_wp2_with fail;generalize ((((x1.setCell ⟨P,1,none⟩ (vI ((i:Int)+1))).setCell ⟨B,0,none⟩ (vI tk)).setCell ⟨B,1,none⟩ (vI ta)).setCell ⟨B,2,none⟩ (vS tt)).setCell ⟨B,3,none⟩ (vI tn)=Z at HG HF HP ⊢;obtain⟨d0,d1,d2,d3,_⟩:=Ao (Af HG.out (.cells #[vI tk,vI ta,vS tt,vI tn] 79));refine bodyPost_ret (v:=.agg #[vI tk,vI ta,vS tt,vI tn]) ?_ rfl ?_
 ·simp[results,Tryz.f123,go_sem,d0,d1,d2,d3]
 ·exact⟨rfl,HP.out.fr ((Fr.refl [] Z).alloc _),HF.out.alloc _⟩
theorem Gc(P g c:Nat)(ts:List Tok)(st:St)(t:Tok)(ht:ts[st.i]?=some t)(gl cl:Nat)(l:List LB)(hl:l.length≤100)(w:World)(h:PSt P g c ts st w)(hS:E4 gl l w)(hgl:gl<w.heap.size)(hE:B8 ts):
  Calls prog 118 #[.pointer (some ⟨P,0,none⟩),.slice (some ⟨gl,0,none⟩) l.length cl] w fun e w'=>e = .returned (.bool (isB t st.ok l))∧Fr [] w w':=by
 have cn:=fun w h=>Hz (B7 P g c ts st t ht w h hE)
 have cc:=fun w h=>Hz (Oy gl cl l ⟨t.text.toArray⟩ (by omega) w h)
 have hP:=Aa h.blk;have H:=Hz h;have HS:=Hz hS;clear h hE ht hS;obtain⟨i,ok⟩:=st;obtain⟨tk,ta,tt,tn⟩:=t;dsimp only at cn cc ⊢;have key:isB ⟨tk,ta,tt,tn⟩ ok l=(ok&&((tk==6)||(tk==7))&&l.contains tt):=rfl;rw[key];clear key
 generalize l.contains tt=R at *
 cases ok with
 | false =>
  go_enter func118,ntmps118;go_wp2_with fail;refine(cn _ H.out).out.mono ?_;rintro e x1 ⟨rfl,f1⟩;have h1:=H.out.fr f1;have hP1:=Aa h1.blk;obtain⟨p0,p1,p2,_⟩:=Ep h1.blk;clear h1;go_wp2_with fail;go_ret
  exact⟨rfl,f1.alloc _⟩
 | true =>
  by_cases hk:(tk==6)=true∨((tk==6)=false∧(tk==7)=true)
  ·rcases hk with hk|⟨hk,hk7⟩
   all_goals
    simp only[*,Bool.true_and,Bool.true_or,Bool.or_true];go_enter func118,ntmps118;go_wp2_with fail;refine(cn _ H.out).out.mono ?_;rintro e x1 ⟨rfl,f1⟩;have h1:=H.out.fr f1;have hP1:=Aa h1.blk;obtain⟨p0,p1,p2,_⟩:=Ep h1.blk;clear h1;go_wp2_with fail;have fa:=f1.alloc (.cells #[vI tk,vI ta,vS tt,vI tn] 79);refine(cc _ (fun i x hi=>(fa.cell (p:=⟨gl,i,none⟩) hgl (fun x=>by cases x)).trans (HS.out i x hi))).out.mono ?_;rintro e x2 ⟨rfl,rfl⟩;go_wp2_with fail;go_ret;exact⟨rfl,fa⟩
  ·have h6:(tk==6)=false:=by cases e:(tk==6)with|false=>rfl|true=>exact absurd (.inl e) hk
   have h7:(tk==7)=false:=by cases e:(tk==7)with|false=>rfl|true=>exact absurd (.inr ⟨h6,e⟩) hk
   clear hk;simp only[h6,h7,Bool.or_self,Bool.and_false,Bool.false_and];go_enter func118,ntmps118;go_wp2_with fail;refine(cn _ H.out).out.mono ?_;rintro e x1 ⟨rfl,f1⟩;have h1:=H.out.fr f1;have hP1:=Aa h1.blk;obtain⟨p0,p1,p2,_⟩:=Ep h1.blk;clear h1;go_wp2_with fail;go_ret;exact⟨rfl,f1.alloc _⟩
section
variable {ts:List Tok} {st st':St} {r:Rs} {t:Tok} {s:LB}
theorem Run.isC_{l:List LB}{k:Bool→Cmd}{b:Bool}(ht:ts[st.i]?=some t)(hb:isB t st.ok l=b)(hk:Run ts (k b) st r st'):Run ts (isC l k) st r st':=.look ht (by rw[hb];exact hk)
theorem Run.may_yes{k:Bool→Cmd}(ht:ts[st.i]?=some t)(hb:isB t st.ok [s]=true)(hk:Run ts (k true) ⟨st.i+1,st.ok⟩ r st'):Run ts (Cl s k) st r st':=.look ht (by rw[if_pos hb];exact .adv hk)
theorem Run.may_no{k:Bool→Cmd}(ht:ts[st.i]?=some t)(hb:isB t st.ok [s]=false)(hk:Run ts (k false) st r st'):Run ts (Cl s k) st r st':=.look ht (by rw[if_neg (by rw[hb];decide)];exact hk)
theorem Run.must_yes{k:Cmd}(ht:ts[st.i]?=some t)(hb:isB t st.ok [s]=true)(hk:Run ts k ⟨st.i+1,st.ok⟩ r st'):Run ts (Bv s k) st r st':=.look ht (by rw[if_pos hb];exact .adv hk)
theorem Run.must_no{k:Cmd}(ht:ts[st.i]?=some t)(hb:isB t st.ok [s]=false)(hk:Run ts k ⟨st.i,false⟩ r st'):Run ts (Bv s k) st r st':=.look ht (by rw[if_neg (by rw[hb];decide)];exact .fail hk)
theorem Run.name_yes{k:LB→Cmd}(ht:ts[st.i]?=some t)(hb:Ks t st.ok=true)(hk:Run ts (k t.text) ⟨st.i+1,st.ok⟩ r st'):Run ts (Fv k) st r st':=.look ht (by rw[if_pos hb];exact .adv hk)
theorem Run.name_no{k:LB→Cmd}(ht:ts[st.i]?=some t)(hb:Ks t st.ok=false)(hk:Run ts (k []) ⟨st.i,false⟩ r st'):Run ts (Fv k) st r st':=.look ht (by rw[if_neg (by rw[hb];decide)];exact .fail hk)
end
def Bq(t:Tok)(st:St)(s:LB):St:=if isB t st.ok [s]=true then ⟨st.i+1,st.ok⟩else ⟨st.i,false⟩
def Dr(t:Tok)(st:St):St:=if Ks t st.ok=true then ⟨st.i+1,st.ok⟩else ⟨st.i,false⟩
def nameT(t:Tok)(st:St):LB:=if Ks t st.ok=true then t.text else []
theorem Run.must_{ts:List Tok}{st st':St}{r:Rs}{t:Tok}{s:LB}{k:Cmd}(ht:ts[st.i]?=some t)(hk:Run ts k (Bq t st s) r st'):Run ts (Bv s k) st r st':=by
 unfold Bq at hk
 cases hb:isB t st.ok [s] with
 | true=>rw[hb,if_pos rfl] at hk;exact .must_yes ht hb hk
 | false=>rw[hb,if_neg (by decide)] at hk;exact .must_no ht hb hk
theorem Run.name_{ts:List Tok}{st st':St}{r:Rs}{t:Tok}{k:LB→Cmd}(ht:ts[st.i]?=some t)(hk:Run ts (k (nameT t st)) (Dr t st) r st'):Run ts (Fv k) st r st':=by
 unfold Dr nameT at hk
 cases hb:Ks t st.ok with
 | true=>rw[hb,if_pos rfl,if_pos rfl] at hk;exact .name_yes ht hb hk
 | false=>rw[hb,if_neg (by decide),if_neg (by decide)] at hk;exact .name_no ht hb hk
theorem G4{t:Tok}{ok:Bool}{l:List LB}(h:isB t ok l=true):ok=true∧t.k≠0:=by
 unfold isB J2 at h;simp only[Ba',Bool.or_eq_true,beq_iff_eq] at h;exact⟨h.1.1,by omega⟩
theorem E4.lit(w:World)(l:List LB)(T:TypeId):E4 w.heap.size l (w.alloc (.cells (l.map fun s=>Value.string ⟨s.toArray⟩).toArray T)):=by
 intro i x hx;rw[Ae (Ad w _)];simp[hx]
theorem E4.one(w:World)(s:LB)(T:TypeId):E4 w.heap.size [s] (w.alloc (.cells #[vS s] T)):=by
 intro i x hx
 have hi:i=0:=by
  rcases i with _|i
  ·rfl
  ·simp at hx
 subst hi;simp at hx;subst hx;rw[Ae (Ad w _)];rfl
theorem may_no(s:LB)(P g c:Nat)(ts:List Tok)(st:St)(t:Tok)(ht:ts[st.i]?=some t)(hb:isB t st.ok [s]=false)(w:World)(h:PSt P g c ts st w)(hE:B8 ts):
  Calls prog 75 #[.pointer (some ⟨P,0,none⟩),vS s] w fun e w'=>e = .returned (.bool false)∧Fr [] w w':=by
 have fa:=(Fr.refl [] w).alloc (.cells #[vS s] 9);have ci:=fun cl=>Hz (Gc P g c ts st t ht w.heap.size cl [s] (by simp) (w.alloc (.cells #[vS s] 9)) (h.fr fa) (E4.one w s _) (by simp) hE)
 rw[hb] at ci;clear hb h hE ht;go_enter func75,ntmps75;go_wp2_with fail;refine(ci _).out.mono ?_;rintro e x1 ⟨rfl,f1⟩;go_wp2_with fail;go_ret;exact⟨rfl,fa.trans f1⟩
theorem may_yes(s:LB)(P g c:Nat)(ts:List Tok)(st:St)(t:Tok)(ht:ts[st.i]?=some t)(hb:isB t st.ok [s]=true)(w:World)(h:PSt P g c ts st w)(hE:B8 ts):
  Calls prog 75 #[.pointer (some ⟨P,0,none⟩),vS s] w fun e w'=>e = .returned (.bool true)∧PSt P g c ts ⟨st.i+1,st.ok⟩ w'∧Fr [P] w w':=by
 have fa:=(Fr.refl [] w).alloc (.cells #[vS s] 9);have ci:=fun cl=>Hz (Gc P g c ts st t ht w.heap.size cl [s] (by simp) (w.alloc (.cells #[vS s] 9)) (h.fr fa) (E4.one w s _) (by simp) hE)
 rw[hb] at ci;have cn:=fun w h=>Hz (Dw P g c ts st t ht (G4 hb).1 (G4 hb).2 w h hE)
 have H:=Hz h;clear hb h hE ht;go_enter func75,ntmps75;go_wp2_with fail;refine(ci _).out.mono ?_;rintro e x1 ⟨rfl,f1⟩;go_wp2_with fail;refine(cn _ (H.out.fr (fa.trans f1))).out.mono ?_;rintro e x2 ⟨rfl,h2,f2⟩;go_wp2_with fail;go_ret;exact⟨rfl,h2,((fa.trans f1).mono (fun x hx=>by cases hx)).trans f2⟩
theorem B3(s:LB)(P g c:Nat)(ts:List Tok)(st:St)(t:Tok)(ht:ts[st.i]?=some t)(w:World)(h:PSt P g c ts st w)(hE:B8 ts):
  Calls prog 116 #[.pointer (some ⟨P,0,none⟩),vS s] w fun e w'=>e = .returned (.tuple #[])∧PSt P g c ts (Bq t st s) w'∧Fr [P] w w':=by
 unfold Bq
 cases hb:isB t st.ok [s] with
 | true =>
  rw[if_pos rfl];have cm:=Hz (may_yes s P g c ts st t ht hb w h hE);clear hb h hE ht;go_enter func116,ntmps116;go_wp2_with fail;refine cm.out.mono ?_;rintro e x1 ⟨rfl,h1,f1⟩;go_wp2_with fail
  go_end0
  exact⟨rfl,h1,f1⟩
 | false =>
  rw[if_neg (by decide)];have cm:=Hz (may_no s P g c ts st t ht hb w h hE);have cf:=fun w h=>Hz (Ip P g c ts st w h)
  have H:=Hz h;clear hb h hE ht;go_enter func116,ntmps116;go_wp2_with fail;refine cm.out.mono ?_;rintro e x1 ⟨rfl,f1⟩;go_wp2_with fail;refine(cf _ (H.out.fr f1)).out.mono ?_;rintro e x2 ⟨rfl,h2,f2⟩;go_wp2_with fail
  go_end0
  exact⟨rfl,h2,(f1.mono (fun x hx=>by cases hx)).trans f2⟩
theorem Ls(a b c d:Value)(w:World):(Instr.field 79 (.agg #[a,b,c,d]) 0).run prog w = .ok a w:=by
 simp[Instr.field,asAgg,part,go_sem]
theorem Xz(a b c d:Value)(w:World):(Instr.field 79 (.agg #[a,b,c,d]) 1).run prog w = .ok b w:=by
 simp[Instr.field,asAgg,part,go_sem]
theorem tok_f2(a b c d:Value)(w:World):(Instr.field 79 (.agg #[a,b,c,d]) 2).run prog w = .ok c w:=by
 simp[Instr.field,asAgg,part,go_sem]
theorem tok_f3(a b c d:Value)(w:World):(Instr.field 79 (.agg #[a,b,c,d]) 3).run prog w = .ok d w:=by
 simp[Instr.field,asAgg,part,go_sem]
theorem Hw(P g c:Nat)(ts:List Tok)(st:St)(t:Tok)(ht:ts[st.i]?=some t)(w:World)(h:PSt P g c ts st w)(hE:B8 ts):
  Calls prog 115 #[.pointer (some ⟨P,0,none⟩)] w fun e w'=>e = .returned (.string ⟨(nameT t st).toArray⟩)∧PSt P g c ts (Dr t st) w'∧Fr [P] w w':=by
 have cn:=fun w h=>Hz (B7 P g c ts st t ht w h hE)
 have cf:=fun w h=>Hz (Ip P g c ts st w h)
 have H:=Hz h;have hP:=Aa h.blk;have r0:=Ls;have r2:=tok_f2;obtain⟨p0,p1,p2,_⟩:=Ep h.blk;unfold Dr nameT
 cases hok:st.ok with
 | false =>
  have e0:Ks t false=false:=rfl;rw[e0,if_neg (by decide),if_neg (by decide)];rw[hok] at p2;clear h hE ht hok e0;go_enter func115,ntmps115;go_wp2_with fail;refine(cf _ H.out).out.mono ?_;rintro e x2 ⟨rfl,h2,f2⟩;go_wp2_with fail;go_ret
  exact⟨rfl,h2,f2⟩
 | true =>
  have e0:Ks t true=(t.k==1):=rfl;rw[e0];rw[hok] at p2
  cases hk:(t.k==1)with
  | false =>
   rw[if_neg (by decide),if_neg (by decide)];have hk2:(t.k != 1)=true:=by rw[bne,hk];rfl
   clear h hE ht hok e0;go_enter func115,ntmps115;go_wp2_with fail;refine(cn _ H.out).out.mono ?_;rintro e x1 ⟨rfl,f1⟩;go_wp2_with fail;refine(cf _ (H.out.fr f1)).out.mono ?_;rintro e x2 ⟨rfl,h2,f2⟩;go_wp2_with fail;go_ret
   exact⟨rfl,h2,(f1.mono (fun x hx=>by cases hx)).trans f2⟩
  | true =>
   rw[if_pos rfl,if_pos rfl];have hk2:(t.k != 1)=false:=by rw[bne,hk];rfl
   have cx:=fun w h=>Hz (Dw P g c ts st t ht hok (by have:=beq_iff_eq.1 hk;omega) w h hE)
   rw[hok] at cx;clear h hE ht hok e0;go_enter func115,ntmps115;go_wp2_with fail;refine(cn _ H.out).out.mono ?_;rintro e x1 ⟨rfl,f1⟩;go_wp2_with fail;refine(cx _ (H.out.fr f1)).out.mono ?_;rintro e x2 ⟨rfl,h2,f2⟩;go_wp2_with fail;go_ret;exact⟨rfl,h2,(f1.mono (fun x hx=>by cases hx)).trans f2⟩
theorem Ac{x:World}{B:Nat}{T:TypeId}{a0 a1 a2 a3 a4 a5 a6 a7:Value}(h:x.heap[B]?=some (.cells #[a0,a1,a2,a3,a4,a5,a6,a7] T (0,0))):(x.cell? ⟨B,0,none⟩=some a0∧x.cell? ⟨B,1,none⟩=some a1∧x.cell? ⟨B,2,none⟩=some a2∧x.cell? ⟨B,3,none⟩=some a3∧x.cell? ⟨B,4,none⟩=some a4∧x.cell? ⟨B,5,none⟩=some a5∧x.cell? ⟨B,6,none⟩=some a6∧x.cell? ⟨B,7,none⟩=some a7)∧x.frozen? ⟨B,0,none⟩=false∧x.frozen? ⟨B,1,none⟩=false∧x.frozen? ⟨B,2,none⟩=false∧x.frozen? ⟨B,3,none⟩=false∧x.frozen? ⟨B,4,none⟩=false∧x.frozen? ⟨B,5,none⟩=false∧x.frozen? ⟨B,6,none⟩=false∧x.frozen? ⟨B,7,none⟩=false :=
 ⟨⟨Ae h 0,Ae h 1,Ae h 2,Ae h 3,Ae h 4,Ae h 5,Ae h 6,Ae h 7⟩,Ap h 0,Ap h 1,Ap h 2,Ap h 3,Ap h 4,Ap h 5,Ap h 6,Ap h 7⟩
def st8(x:World)(B:Nat)(a0 a1 a2 a3 a4 a5 a6 a7:Value):World:=(((((((x.setCell ⟨B,0,none⟩ a0).setCell ⟨B,1,none⟩ a1).setCell ⟨B,2,none⟩ a2).setCell ⟨B,3,none⟩ a3).setCell ⟨B,4,none⟩ a4).setCell ⟨B,5,none⟩ a5).setCell ⟨B,6,none⟩ a6).setCell ⟨B,7,none⟩ a7
theorem Ar{x:World}{B:Nat}{T:TypeId}{o0 o1 o2 o3 o4 o5 o6 o7:Value}(h:x.heap[B]?=some (.cells #[o0,o1,o2,o3,o4,o5,o6,o7] T (0,0)))(a0 a1 a2 a3 a4 a5 a6 a7:Value):(st8 x B a0 a1 a2 a3 a4 a5 a6 a7).heap[B]?=some (.cells #[a0,a1,a2,a3,a4,a5,a6,a7] T (0,0)):=by
 simp[st8,World.setCell,Array.getElem?_modify,h]
theorem Ai(x:World)(B:Nat)(a0 a1 a2 a3 a4 a5 a6 a7:Value):Fr [B] x (st8 x B a0 a1 a2 a3 a4 a5 a6 a7):=by
 unfold st8;exact((((((((Fr.refl [B] x).setCell (p:=⟨B,0,none⟩) (.inl (by simp)) a0).setCell (p:=⟨B,1,none⟩) (.inl (by simp)) a1).setCell (p:=⟨B,2,none⟩) (.inl (by simp)) a2).setCell (p:=⟨B,3,none⟩) (.inl (by simp)) a3).setCell (p:=⟨B,4,none⟩) (.inl (by simp)) a4).setCell (p:=⟨B,5,none⟩) (.inl (by simp)) a5).setCell (p:=⟨B,6,none⟩) (.inl (by simp)) a6).setCell (p:=⟨B,7,none⟩) (.inl (by simp)) a7
theorem Es(x:World)(B:Nat)(a0 a1 a2 a3 a4 a5 a6 a7:Value):(st8 x B a0 a1 a2 a3 a4 a5 a6 a7).heap.size=x.heap.size:=by simp[st8,World.setCell]
theorem Aq{x:World}{B:Nat}{T:TypeId}{a0 a1 a2 a3 a4 a5 a6:Value}(h:x.heap[B]?=some (.cells #[a0,a1,a2,a3,a4,a5,a6] T (0,0))):(x.cell? ⟨B,0,none⟩=some a0∧x.cell? ⟨B,1,none⟩=some a1∧x.cell? ⟨B,2,none⟩=some a2∧x.cell? ⟨B,3,none⟩=some a3∧x.cell? ⟨B,4,none⟩=some a4∧x.cell? ⟨B,5,none⟩=some a5∧x.cell? ⟨B,6,none⟩=some a6)∧x.frozen? ⟨B,0,none⟩=false∧x.frozen? ⟨B,1,none⟩=false∧x.frozen? ⟨B,2,none⟩=false∧x.frozen? ⟨B,3,none⟩=false∧x.frozen? ⟨B,4,none⟩=false∧x.frozen? ⟨B,5,none⟩=false∧x.frozen? ⟨B,6,none⟩=false :=
 ⟨⟨Ae h 0,Ae h 1,Ae h 2,Ae h 3,Ae h 4,Ae h 5,Ae h 6⟩,Ap h 0,Ap h 1,Ap h 2,Ap h 3,Ap h 4,Ap h 5,Ap h 6⟩
def st7(x:World)(B:Nat)(a0 a1 a2 a3 a4 a5 a6:Value):World:=((((((x.setCell ⟨B,0,none⟩ a0).setCell ⟨B,1,none⟩ a1).setCell ⟨B,2,none⟩ a2).setCell ⟨B,3,none⟩ a3).setCell ⟨B,4,none⟩ a4).setCell ⟨B,5,none⟩ a5).setCell ⟨B,6,none⟩ a6
theorem Cx{x:World}{B:Nat}{T:TypeId}{o0 o1 o2 o3 o4 o5 o6:Value}(h:x.heap[B]?=some (.cells #[o0,o1,o2,o3,o4,o5,o6] T (0,0)))(a0 a1 a2 a3 a4 a5 a6:Value):(st7 x B a0 a1 a2 a3 a4 a5 a6).heap[B]?=some (.cells #[a0,a1,a2,a3,a4,a5,a6] T (0,0)):=by
 simp[st7,World.setCell,Array.getElem?_modify,h]
theorem Bo(x:World)(B:Nat)(a0 a1 a2 a3 a4 a5 a6:Value):Fr [B] x (st7 x B a0 a1 a2 a3 a4 a5 a6):=by
 unfold st7;exact(((((((Fr.refl [B] x).setCell (p:=⟨B,0,none⟩) (.inl (by simp)) a0).setCell (p:=⟨B,1,none⟩) (.inl (by simp)) a1).setCell (p:=⟨B,2,none⟩) (.inl (by simp)) a2).setCell (p:=⟨B,3,none⟩) (.inl (by simp)) a3).setCell (p:=⟨B,4,none⟩) (.inl (by simp)) a4).setCell (p:=⟨B,5,none⟩) (.inl (by simp)) a5).setCell (p:=⟨B,6,none⟩) (.inl (by simp)) a6
theorem st7_size(x:World)(B:Nat)(a0 a1 a2 a3 a4 a5 a6:Value):(st7 x B a0 a1 a2 a3 a4 a5 a6).heap.size=x.heap.size:=by simp[st7,World.setCell]
theorem Sh.of_fr{w w':World}{L:List Nat}{ok ok':Nat→Prop}(hf:Fr L w w')(h:∀ b,ok b→b<w.heap.size→ok' b∧b ∉ L):Sh w w' ok ok' :=
 fun b hb hlt=>⟨(h b hb hlt).1,hf.block b hlt (h b hb hlt).2,Nl' hlt hf.size⟩
theorem PSt.frL{P g c:Nat}{ts:List Tok}{st:St}{w w':World}{L:List Nat}(h:PSt P g c ts st w)(hf:Fr L w w')(hP:P ∉ L)(hg:g ∉ L):PSt P g c ts st w' :=
 ⟨hf.keep h.blk hP,h.rt.frL hf h.lt hg,Nl' h.lt hf.size,h.ne,h.inb⟩
def Il(P g c:Nat)(ts:List Tok)(st:St)(cmd:Cmd)(w:World)(e:Ending)(w':World):Prop :=
 ∃ (k a:Int) (nm:LB) (n:Int) (s:LB) (ls:List LB) (args:List Ab) (arms:List (Ak×Ab)) (A5:Option Addr) (n5 c5:Nat) (A6:Option Addr) (n6 c6:Nat) (A7:Option Addr) (n7 c7:Nat) (st':St),
  e = .returned (.agg #[vI k,vI a,vS nm,vI n,vS s,.slice A5 n5 c5,.slice A6 n6 c6,.slice A7 n7 c7])∧Aj w' (fun b=>w.heap.size≤b) (.mk k a nm n s ls args arms) [vI k,vI a,vS nm,vI n,vS s,.slice A5 n5 c5,.slice A6 n6 c6,.slice A7 n7 c7] ∧
  Run ts cmd st (.e (.mk k a nm n s ls args arms)) st'∧PSt P g c ts st' w'∧Fr [P] w w'
def Qu(P g c:Nat)(ts:List Tok)(st:St)(cmd:Cmd)(w:World)(e:Ending)(w':World):Prop :=
 ∃ (k a:Int) (nm:LB) (n:Int) (s:LB) (ls:List LB) (args:List Ak) (A5:Option Addr) (n5 c5:Nat) (A6:Option Addr) (n6 c6:Nat) (st':St),
  e = .returned (.agg #[vI k,vI a,vS nm,vI n,vS s,.slice A5 n5 c5,.slice A6 n6 c6])∧Bd w' (fun b=>w.heap.size≤b) (.mk k a nm n s ls args) [vI k,vI a,vS nm,vI n,vS s,.slice A5 n5 c5,.slice A6 n6 c6] ∧
  Run ts cmd st (.p (.mk k a nm n s ls args)) st'∧PSt P g c ts st' w'∧Fr [P] w w'
def GE(ts:List Tok)(N lv:Nat)(nt:NT)(fid:FuncId):Prop:=∀ (P g c:Nat)(st:St)(w:World),PSt P g c ts st w→16 *(ts.length-st.i)+lv<N→Calls prog fid #[.pointer (some ⟨P,0,none⟩)] w (Il P g c ts st (body nt) w)
def GP(ts:List Tok)(N lv:Nat)(nt:PNT)(fid:FuncId):Prop:=∀ (P g c:Nat)(st:St)(w:World),PSt P g c ts st w→16 *(ts.length-st.i)+lv<N→Calls prog fid #[.pointer (some ⟨P,0,none⟩)] w (Qu P g c ts st (Cn nt) w)
theorem Run.els{ts:List Tok}{c d:Cmd}{st:St}{r:Rs}{st':St}(h:Run ts d st r st'):Run ts (if false=true then c else d) st r st':=h
theorem Run.thn{ts:List Tok}{c d:Cmd}{st:St}{r:Rs}{st':St}(h:Run ts c st r st'):Run ts (if true=true then c else d) st r st':=h
theorem A4{ts:List Tok}{i:Nat}(h:i<ts.length):∃ t,ts[i]?=some t:=⟨ts[i],Lg' h⟩
theorem Run.le{ts:List Tok}{c:Cmd}{st:St}{r:Rs}{st':St}(h:Run ts c st r st'):st.i≤st'.i:=h.grows.1
structure Fo (ts:List Tok)(N:Nat):Prop where
 fn:GE ts N 14 .fn 117
 seq:GE ts N 13 .seq 40
 item:GE ts N 12 .item 74
 or:GE ts N 11 .or 121
 and:GE ts N 10 .and 149
 cmp:GE ts N 9 .cmp 180
 sum:GE ts N 8 .sum 201
 prod:GE ts N 7 .prod 216
 unary:GE ts N 6 .unary 220
 app:GE ts N 5 .app 221
 post:GE ts N 4 .post 120
 atom:GE ts N 3 .atom 148
section
attribute [local go_sem ↓] Go.wp_at_zero Go.wp_at_succ
structure CS (pn pm:Nat)(most σ:Int)(w:World):Prop where
 n:w.heap[pn]?=some (.cells #[vI σ] 3 (0,0))
 m:w.heap[pm]?=some (.cells #[vI most] 3 (0,0))
 lo:0≤σ
 hi:most≤1099511627776
 ne:pn≠pm
theorem CS.fr{pn pm:Nat}{most σ:Int}{w w':World}(h:CS pn pm most σ w)(hf:Fr [] w w'):CS pn pm most σ w' :=
 ⟨hf.keep h.n (fun x=>by cases x),hf.keep h.m (fun x=>by cases x),h.lo,h.hi,h.ne⟩
structure DS (pm pa pf:Nat)(most:Int)(σ:Int×Bool)(w:World):Prop where
 m:w.heap[pm]?=some (.cells #[vI most] 3 (0,0))
 a:w.heap[pa]?=some (.cells #[vI σ.1] 3 (0,0))
 f:w.heap[pf]?=some (.cells #[.bool σ.2] 4 (0,0))
 n1:pa≠pm
 n2:pf≠pm
 n3:pa≠pf
theorem DS.fr{pm pa pf:Nat}{most:Int}{σ:Int×Bool}{w w':World}(h:DS pm pa pf most σ w)(hf:Fr [] w w'):DS pm pa pf most σ w' :=
 ⟨hf.keep h.m (fun x=>by cases x),hf.keep h.a (fun x=>by cases x),hf.keep h.f (fun x=>by cases x),h.n1,h.n2,h.n3⟩
theorem eachC(pn pm:Nat)(most σ a D:Int)(d:Nat)(_hD:D=d)(w:World)(h:CS pn pm most σ w)(hs:σ≤most):
  Calls prog 53 #[vI a,vI D,.pointer (some ⟨pn,0,none⟩),.pointer (some ⟨pm,0,none⟩)] w fun e w'=>e = .returned (.bool (C1 most σ (a,d)).2)∧CS pn pm most (C1 most σ (a,d)).1 w'∧Fr [pn] w w':=by
 have hn:=Aa h.n;have hm:=Aa h.m;have c0:w.cell? ⟨pn,0,none⟩=some (vI σ):=Ae h.n 0;have z0:w.frozen? ⟨pn,0,none⟩=false:=Ap h.n 0;have c1:w.cell? ⟨pm,0,none⟩=some (vI most):=Ae h.m 0;have ne:=h.ne;have ne':=Ne.symm h.ne;have lo:=h.lo;have hi:=h.hi;have H:=Hz h;clear h _hD;show Calls _ _ _ _ fun e w'=>e = .returned (.bool (decide (σ+1≤most)))∧CS pn pm most (σ+1) w'∧Fr [pn] w w'
 have fs:=(Fr.refl [pn] w).setCell (p:=⟨pn,0,none⟩) (.inl (by simp)) (vI (σ+1));have HC:Hid (CS pn pm most (σ+1) (w.setCell ⟨pn,0,none⟩ (vI (σ+1)))):=Hz ⟨Bn H.out.n 0 _,fs.keep H.out.m (by simpa using Ne.symm H.out.ne),by omega,hi,H.out.ne⟩;have HF:=Hz fs;clear fs;have wq:IntKind.i64.wrap (σ+1)=σ+1:=IntWalk.i64_in _ (by omega);go_enter func53,ntmps53;go_wp2_with fail;go_ret;exact⟨rfl,HC.out,HF.out⟩
theorem eachD(pm pa pf:Nat)(most:Int)(σ:Int×Bool)(a D:Int)(d:Nat)(hD:D=d)(w:World)(h:DS pm pa pf most σ w)(hs:σ.2=false):
  Calls prog 54 #[vI a,vI D,.pointer (some ⟨pm,0,none⟩),.pointer (some ⟨pa,0,none⟩),.pointer (some ⟨pf,0,none⟩)] w fun e w'=>e = .returned (.bool (Bm most σ (a,d)).2)∧DS pm pa pf most (Bm most σ (a,d)).1 w'∧Fr [pa,pf] w w':=by
 obtain⟨σa,σf⟩:=σ;simp only at hs;subst hs;have hm:=Aa h.m;have ha:=Aa h.a;have hf:=Aa h.f;have c0:w.cell? ⟨pm,0,none⟩=some (vI most):=Ae h.m 0;have c1:w.cell? ⟨pa,0,none⟩=some (vI σa):=Ae h.a 0;have c2:w.cell? ⟨pf,0,none⟩=some (.bool false):=Ae h.f 0;have z1:w.frozen? ⟨pa,0,none⟩=false:=Ap h.a 0;have z2:w.frozen? ⟨pf,0,none⟩=false:=Ap h.f 0;have n1:=h.n1;have n1':=Ne.symm h.n1;have n2:=h.n2;have n2':=Ne.symm h.n2;have n3:=h.n3;have n3':=Ne.symm h.n3;have H:=Hz h;clear h;by_cases hd:most<D
 ·have e:Bm most (σa,false) (a,d)=((a,true),false):=by unfold Bm;rw[if_pos (by simpa [← hD] using hd)]
  rw[e];clear e hD;have fs:=((Fr.refl [pa,pf] w).setCell (p:=⟨pa,0,none⟩) (.inl (by simp)) (vI a)).setCell (p:=⟨pf,0,none⟩) (.inl (by simp)) (.bool true);have HC:Hid (DS pm pa pf most (a,true) ((w.setCell ⟨pa,0,none⟩ (vI a)).setCell ⟨pf,0,none⟩ (.bool true))):=Hz ⟨fs.keep H.out.m (by simp[n1',n2']),((Fr.refl [pf] _).setCell (p:=⟨pf,0,none⟩) (.inl (by simp)) (.bool true)).keep (Bn H.out.a 0 (vI a)) (by simp[n3]),Bn (((Fr.refl [pa] w).setCell (p:=⟨pa,0,none⟩) (.inl (by simp)) (vI a)).keep H.out.f (by simp[n3'])) 0 (.bool true),H.out.n1,H.out.n2,H.out.n3⟩;have HF:=Hz fs;clear fs;go_enter func54,ntmps54;go_wp2_with fail;go_ret;exact⟨rfl,HC.out,HF.out⟩
 ·have e:Bm most (σa,false) (a,d)=((σa,false),true):=by unfold Bm;rw[if_neg (by simpa [← hD] using hd)];rfl
  rw[e];clear e hD;go_enter func54,ntmps54;go_wp2_with fail;go_ret;exact⟨rfl,H.out,Fr.refl _ _⟩
def PTC(pn pm:Nat)(most:Int)(lo N:Nat):Prop:=∀ (k a:Int)(nm:LB)(n:Int)(s:LB)(ls:List LB)(args:List Ak)(v5 v6:Value)(d:Nat)(D:Int)(w:World)(σ:Int),szP (.mk k a nm n s ls args)<N→D=d→d+szP (.mk k a nm n s ls args)≤1099511627776→lo≤w.heap.size →
  Bd w (fun b=>b<lo) (.mk k a nm n s ls args) [vI k,vI a,vS nm,vI n,vS s,v5,v6]→CS pn pm most σ w→σ≤most →
  Calls prog 95 #[.agg #[vI k,vI a,vS nm,vI n,vS s,v5,v6],vI D,.func (.func 53) #[] #[.pointer (some ⟨pn,0,none⟩),.pointer (some ⟨pm,0,none⟩)]] w fun e w'=>e = .returned (.bool (goL (C1 most) σ (Bz (.mk k a nm n s ls args) d)).2)∧CS pn pm most (goL (C1 most) σ (Bz (.mk k a nm n s ls args) d)).1 w'∧Fr [pn] w w'
theorem Xn(pn pm:Nat)(most:Int)(lo:Nat)(hl:lo≤pn)(N:Nat)(ih:PTC pn pm most lo N):PTC pn pm most lo (N+1):=by
 intro k a nm n s ls args v5 v6 d D w σ hN hD hb hlo hx hs hok;have hx0:=hx
 cases hx with
 | mk c5 c6 h5 e5 h6 e6 =>
 have hsz:szP (.mk k a nm n s ls args)=1+Ey args:=by simp[szP]
 rw[hsz] at hN hb;rw[Kf,goL]
 have hform:∃ A6 m6 cc6,v6 = .slice A6 m6 cc6∧m6=args.length:=by
  obtain⟨_,_,hv⟩:=h6.form;exact⟨_,_,_,hv,rfl⟩
 obtain⟨A6,m6,cc6,rfl,rfl⟩:=hform;have IH:=Hz ih;have H6:=Hz h6;have E6:Hid (∀ (i:Nat) (x:Ak),args[i]?=some x→Bd w (fun b=>b<lo) x (c6 i)):=Hz e6;have HD:=Hz hD;have HS:=Hz hs;have hpn:=Aa hs.n;have HOK:=Hz hok;have HN:=Hz hN;have HSZ:=Hz hsz;have hdn:(0:Int)≤D:=by omega
 have hdx:D≤1099511627776:=by omega
 have HDQ:Hid (IntKind.i64.wrap (D+1)=D+1):=Hz (IntWalk.i64_in _ (by omega));have hm6:(args.length:Int)≤4611686018427387903:=by have:args.length≤Ey args:=Tf args;omega
 clear ih h5 e5 h6 e6 hs hok hD hN hsz hx0;generalize hR:(if ((C1 most) σ (a,d)).2=true then goL (C1 most) ((C1 most) σ (a,d)).1 (C6 args (d+1))else (((C1 most) σ (a,d)).1,false))=R;have HR:=Hz hR;clear hR;go_enter func95,ntmps95;go_wp2_with fail;have f0:Fr [] w (w.alloc (.cells #[vI k,vI a,vS nm,vI n,vS s,v5,.slice A6 args.length cc6] 25)):=(Fr.refl [] w).alloc _;have q0:=Ad w (.cells #[vI k,vI a,vS nm,vI n,vS s,v5,.slice A6 args.length cc6] 25)
 generalize w.alloc (.cells #[vI k,vI a,vS nm,vI n,vS s,v5,.slice A6 args.length cc6] 25)=w1 at *
 have hT1:=Aa q0
 generalize hT:w.heap.size=T at *
 refine(eachC pn pm most σ a D d HD.out w1 (HS.out.fr f0) HOK.out).mono ?_;rintro e w2 ⟨rfl,hs2,f2⟩;have hl0:=Aa hs2.n;have q0:=f2.keep q0 (by simp;omega);have f2:=(f0.mono (L':=[pn]) (fun x hx=>by cases hx)).trans f2
 cases hb1:((C1 most) σ (a,d)).2 with
 | false =>
  go_wp2_with fail;go_ret;have e:R=(((C1 most) σ (a,d)).1,false):=by rw[← HR.out,if_neg (by rw[hb1];decide)]
  rw[e]
  exact⟨rfl,hs2,f2⟩
 | true =>
  have HG:Hid (R=goL (C1 most) ((C1 most) σ (a,d)).1 (C6 (args.drop 0) (d+1))):=Hz (by rw[← HR.out,if_pos hb1];rfl);have hok2:Hid (((C1 most) σ (a,d)).1≤most):=Hz (by have:=hb1;simp[C1] at this ⊢;exact this);clear hb1 HR;have hTx:=Aa q0;obtain⟨⟨l0,l1,l2,l3,l4,l5,l6⟩,_⟩:=Aq q0;go_wp2_with fail;clear l0 l1 l2 l3 l4 l5 l6
  go_loopw [18] (fun iv wr=>∃ (i:Nat) (τ:Int),iv=vI i∧i≤args.length∧CS pn pm most τ wr∧Hid (τ≤most)∧Fr [pn] w wr∧Hid (R=goL (C1 most) τ (C6 (args.drop i) (d+1)))) (fun iv wr=>args.length-(intOf iv).toNat)
  case atStart=>exact⟨0,_,rfl,by omega,hs2,hok2,f2,HG⟩
  case round =>
   obtain⟨i,τ,rfl,hi,hs,hok,f,HG⟩:=hrel;clear hok2 hs2 f2 q0 hTx hl0;by_cases hlt:i<args.length
   ·obtain⟨y,hy⟩:∃ y,args[i]?=some y:=⟨args[i],Lg' hlt⟩
    have HY:=Hz hy;clear hy;have hyx:=E6.out i y HY.out
    rcases H6.out with⟨_,_,_,hl⟩| ⟨g,og,c',hv,hg,hgs,_,hcs⟩
    ·omega
    ·cases hv;obtain⟨hcl,hcc⟩:=hcs i hlt;have hcell:∀ (j:Nat) (v:Value),(c6 i)[j]?=some v→wr.cell? ⟨g,og+i * 7+j,none⟩=some v:=fun j v hj=>(f.cell (p:=⟨g,og+i * 7+j,none⟩) hgs (by simp;omega)).trans (hcc j v hj)
     have hgw:g<wr.heap.size:=Nl' hgs (by have:=f.size;omega)
     generalize hci:c6 i=ci at *
     have hyw:=hyx.keep (w':=wr) (ok':=fun b=>b<lo) (Sh.of_fr f (fun b hb hlt=>⟨hb,by simp;omega⟩))
     cases hyx with
     | @mk k2 a2 nm2 n2 s2 ls2 args2 v52 v62 c52 c62 h52 e52 h62 e62 =>
     have hf5:∃ A m cc,v52 = .slice A m cc:=by obtain⟨_,_,hv⟩:=h52.form;exact⟨_,_,_,hv⟩
     have hf6:∃ A m cc,v62 = .slice A m cc:=by obtain⟨_,_,hv⟩:=h62.form;exact⟨_,_,_,hv⟩
     clear h52 e52 h62 e62;obtain⟨A52,m52,cc52,rfl⟩:=hf5;obtain⟨A62,m62,cc62,rfl⟩:=hf6;have x0:wr.cell? ⟨g,og+i * 7,none⟩=some (vI k2):=hcell 0 _ rfl;have x1:wr.cell? ⟨g,og+i * 7+1,none⟩=some (vI a2):=hcell 1 _ rfl;have x2:wr.cell? ⟨g,og+i * 7+2,none⟩=some (vS nm2):=hcell 2 _ rfl;have x3:wr.cell? ⟨g,og+i * 7+3,none⟩=some (vI n2):=hcell 3 _ rfl;have x4:wr.cell? ⟨g,og+i * 7+4,none⟩=some (vS s2):=hcell 4 _ rfl;have x5:wr.cell? ⟨g,og+i * 7+5,none⟩=some (.slice A52 m52 cc52):=hcell 5 _ rfl;have x6:wr.cell? ⟨g,og+i * 7+6,none⟩=some (.slice A62 m62 cc62):=hcell 6 _ rfl;have hsz2:=Gz HY.out;have cP:=fun W (hW:Fr [] wr W)=>Hz (IH.out k2 a2 nm2 n2 s2 ls2 args2 (.slice A52 m52 cc52) (.slice A62 m62 cc62) (d+1) (D+1) W τ (by have:=HN.out;omega) (by rw[HD.out];simp) (by omega) (by have:=f.size;have:=hW.size;omega) (hyw.keep (Sh.of_fr hW (fun b hb hlt=>⟨hb,fun x=>by cases x⟩))) (hs.fr hW) hok.out)
     have hDQ:=HDQ.out;clear hcell hci hcc hcs hcl hyw hg;have q1:(0:Int)≤(i:Int):=by omega
     have q2:(i:Int)<(args.length:Int):=by omega
     go_wp2_with fail;have fb:Fr [] wr (wr.alloc (.cells #[vI k2,vI a2,vS nm2,vI n2,vS s2,.slice A52 m52 cc52,.slice A62 m62 cc62] 25)):=(Fr.refl [] wr).alloc _;refine(cP _ fb).out.mono ?_;rintro e w3 ⟨rfl,hs3,f3⟩;clear x0 x1 x2 x3 x4 x5 x6 cP hDQ;have f3:=(fb.mono (L':=[pn]) (fun x hx=>by cases hx)).trans f3;have f4:=f.trans f3
     cases hb2:(goL (C1 most) τ (Bz (.mk k2 a2 nm2 n2 s2 ls2 args2) (d+1))).2 with
     | false =>
      go_wp2_with fail;go_ret;have e:R=((goL (C1 most) τ (Bz (.mk k2 a2 nm2 n2 s2 ls2 args2) (d+1))).1,false):=by rw[HG.out,Hg HY.out,Eo,if_neg (by rw[hb2];decide)]
      rw[e]
      exact⟨rfl,hs3,f4⟩
     | true =>
      have HG2:Hid (R=goL (C1 most) (goL (C1 most) τ (Bz (.mk k2 a2 nm2 n2 s2 ls2 args2) (d+1))).1 (C6 (args.drop (i+1)) (d+1))):=Hz (by rw[HG.out,Hg HY.out,Eo,if_pos hb2]);have hok3:Hid ((goL (C1 most) τ (Bz (.mk k2 a2 nm2 n2 s2 ls2 args2) (d+1))).1≤most):=Hz (Sk hok.out hb2);clear hb2 HG hok;go_wp2_with fail
      go_roundw
      case rel=>exact⟨i+1,_,by simp,by omega,hs3,hok3,f4,HG2⟩
      case measure=>simp[intOf];omega
   ·have ei:i=args.length:=by omega
    subst ei;go_wp2_with fail;go_ret;have e:R=(τ,true):=by rw[HG.out,List.drop_length];simp[C6,goL]
    rw[e];exact⟨rfl,hs,f⟩
theorem Rr(pn pm:Nat)(most:Int)(lo:Nat)(hl:lo≤pn):∀ N,PTC pn pm most lo N
 | 0=>fun _ _ _ _ _ _ _ _ _ _ _ _ _ h=>absurd h (Nat.not_lt_zero _)
 | N+1=>Xn pn pm most lo hl N (Rr pn pm most lo hl N)
def WTC(pn pm:Nat)(most:Int)(lo N:Nat):Prop:=∀ (k a:Int)(nm:LB)(n:Int)(s:LB)(ls:List LB)(args:List Ab)(arms:List (Ak×Ab))(v5 v6 v7:Value)(d:Nat)(D:Int)(w:World)(σ:Int),szE (.mk k a nm n s ls args arms)<N→D=d→d+szE (.mk k a nm n s ls args arms)≤1099511627776→lo≤w.heap.size →
  Aj w (fun b=>b<lo) (.mk k a nm n s ls args arms) [vI k,vI a,vS nm,vI n,vS s,v5,v6,v7]→CS pn pm most σ w→σ≤most →
  Calls prog 52 #[.agg #[vI k,vI a,vS nm,vI n,vS s,v5,v6,v7],vI D,.func (.func 53) #[] #[.pointer (some ⟨pn,0,none⟩),.pointer (some ⟨pm,0,none⟩)]] w fun e w'=>e = .returned (.bool (goL (C1 most) σ (Bw (.mk k a nm n s ls args arms) d)).2)∧CS pn pm most (goL (C1 most) σ (Bw (.mk k a nm n s ls args arms) d)).1 w'∧Fr [pn] w w'
theorem X3(pn pm:Nat)(most:Int)(lo:Nat)(hl:lo≤pn)(N:Nat)(ih:WTC pn pm most lo N):WTC pn pm most lo (N+1):=by
 intro k a nm n s ls args arms v5 v6 v7 d D w σ hN hD hb hlo hx hs hok
 cases hx with
 | mk c5 c6 cp ce h5 e5 h6 e6 h7 e7 e8 =>
 have hsz:szE (.mk k a nm n s ls args arms)=1+(B1 args+Cd arms):=by simp[szE]
 rw[hsz] at hN hb;rw[Ke,goL]
 have hform:∃ A6 m6 cc6,v6 = .slice A6 m6 cc6∧m6=args.length:=by
  obtain⟨_,_,hv⟩:=h6.form;exact⟨_,_,_,hv,rfl⟩
 obtain⟨A6,m6,cc6,rfl,rfl⟩:=hform
 have hform:∃ A7 m7 cc7,v7 = .slice A7 m7 cc7∧m7=arms.length:=by
  obtain⟨_,_,hv⟩:=h7.form;exact⟨_,_,_,hv,rfl⟩
 obtain⟨A7,m7,cc7,rfl,rfl⟩:=hform;have IH:=Hz ih;have H6:=Hz h6;have H7:=Hz h7;have E6:Hid (∀ (i:Nat) (x:Ab),args[i]?=some x→Aj w (fun b=>b<lo) x (c6 i)):=Hz e6;have E7:Hid (∀ (i:Nat) (p:Ak) (x:Ab),arms[i]?=some (p,x)→Bd w (fun b=>b<lo) p (cp i)):=Hz e7;have E8:Hid (∀ (i:Nat) (p:Ak) (x:Ab),arms[i]?=some (p,x)→Aj w (fun b=>b<lo) x (ce i)):=Hz e8;have HD:=Hz hD;have HS:=Hz hs;have hpn:=Aa hs.n;have HOK:=Hz hok;have HN:=Hz hN;have hdn:(0:Int)≤D:=by omega
 have hdx:D≤1099511627776:=by omega
 have HDQ:Hid (IntKind.i64.wrap (D+1)=D+1):=Hz (IntWalk.i64_in _ (by omega));have hm6:(args.length:Int)≤4611686018427387903:=by have:args.length≤B1 args:=Te args;omega
 have hm7:(arms.length:Int)≤4611686018427387903:=by have:arms.length≤Cd arms:=Td arms;omega
 clear ih h5 e5 h6 e6 h7 e7 e8 hs hok hD hN hsz;generalize hR:(if ((C1 most) σ (a,d)).2=true then goL (C1 most) ((C1 most) σ (a,d)).1 (C5 args (d+1)++B9 arms (d+1))else (((C1 most) σ (a,d)).1,false))=R;have HR:=Hz hR;clear hR;go_enter func52,ntmps52;go_wp2_with fail;have f0:Fr [] w (w.alloc (.cells #[vI k,vI a,vS nm,vI n,vS s,v5,.slice A6 args.length cc6,.slice A7 arms.length cc7] 35)):=(Fr.refl [] w).alloc _;have q0:=Ad w (.cells #[vI k,vI a,vS nm,vI n,vS s,v5,.slice A6 args.length cc6,.slice A7 arms.length cc7] 35)
 generalize w.alloc (.cells #[vI k,vI a,vS nm,vI n,vS s,v5,.slice A6 args.length cc6,.slice A7 arms.length cc7] 35)=w1 at *
 have hT1:=Aa q0
 generalize hT:w.heap.size=T at *
 refine(eachC pn pm most σ a D d HD.out w1 (HS.out.fr f0) HOK.out).mono ?_;rintro e w2 ⟨rfl,hs2,f2⟩;have q0:=f2.keep q0 (by simp;omega);have f2:=(f0.mono (L':=[pn]) (fun x hx=>by cases hx)).trans f2
 cases hb1:((C1 most) σ (a,d)).2 with
 | false =>
  go_wp2_with fail;go_ret;have e:R=(((C1 most) σ (a,d)).1,false):=by rw[← HR.out,if_neg (by rw[hb1];decide)]
  rw[e]
  exact⟨rfl,hs2,f2⟩
 | true =>
  have HG:Hid (R=goL (C1 most) ((C1 most) σ (a,d)).1 (C5 (args.drop 0) (d+1)++B9 arms (d+1))):=Hz (by rw[← HR.out,if_pos hb1];rfl);have hok2:Hid (((C1 most) σ (a,d)).1≤most):=Hz (by have:=hb1;simp[C1] at this ⊢;exact this);clear hb1 HR;have hTx:=Aa q0;obtain⟨⟨l0,l1,l2,l3,l4,l5,l6,l7⟩,_⟩:=Ac q0;go_wp2_with fail;clear l0 l1 l2 l3 l4 l5 l6 l7
  go_loopw [20] (fun iv wr=>∃ (i:Nat) (τ:Int),iv=vI i∧i≤args.length∧CS pn pm most τ wr∧Hid (τ≤most)∧Fr [pn] w wr∧wr.heap[T]?=some (.cells #[vI k,vI a,vS nm,vI n,vS s,v5,.slice A6 args.length cc6,.slice A7 arms.length cc7] 35 (0,0))∧Hid (R=goL (C1 most) τ (C5 (args.drop i) (d+1)++B9 arms (d+1)))) (fun iv wr=>args.length-(intOf iv).toNat)
  case atStart=>exact⟨0,_,rfl,by omega,hs2,hok2,f2,q0,HG⟩
  case round =>
   obtain⟨i,τ,rfl,hi,hs,hok,f,q0',HG⟩:=hrel;clear hok2 hs2 f2 q0 hTx;have q0:=q0';clear q0';have hTw:=Aa q0;by_cases hlt:i<args.length
   ·obtain⟨y,hy⟩:∃ y,args[i]?=some y:=⟨args[i],Lg' hlt⟩
    have HY:=Hz hy;clear hy;have hyx:=E6.out i y HY.out
    rcases H6.out with⟨_,_,_,hl⟩| ⟨g,og,c',hv,hg,hgs,_,hcs⟩
    ·omega
    ·cases hv;obtain⟨hcl,hcc⟩:=hcs i hlt;have hcell:∀ (j:Nat) (v:Value),(c6 i)[j]?=some v→wr.cell? ⟨g,og+i * 8+j,none⟩=some v:=fun j v hj=>(f.cell (p:=⟨g,og+i * 8+j,none⟩) hgs (by simp;omega)).trans (hcc j v hj)
     have hgw:g<wr.heap.size:=Nl' hgs (by have:=f.size;omega)
     generalize hci:c6 i=ci at *
     have hyw:=hyx.keep (w':=wr) (ok':=fun b=>b<lo) (Sh.of_fr f (fun b hb hlt=>⟨hb,by simp;omega⟩))
     cases hyx with
     | @mk k2 a2 nm2 n2 s2 ls2 args2 arms2 v52 v62 v72 c52 c62 cp2 ce2 h52 e52 h62 e62 h72 e72 e82 =>
     have hf:∃ A m cc,v52 = .slice A m cc:=by obtain⟨_,_,hv⟩:=h52.form;exact⟨_,_,_,hv⟩
     obtain⟨A52,m52,cc52,rfl⟩:=hf;have hf:∃ A m cc,v62 = .slice A m cc:=by obtain⟨_,_,hv⟩:=h62.form;exact⟨_,_,_,hv⟩
     obtain⟨A62,m62,cc62,rfl⟩:=hf;have hf:∃ A m cc,v72 = .slice A m cc:=by obtain⟨_,_,hv⟩:=h72.form;exact⟨_,_,_,hv⟩
     obtain⟨A72,m72,cc72,rfl⟩:=hf;clear h52 e52 h62 e62 h72 e72 e82;have x0:wr.cell? ⟨g,og+i * 8,none⟩=some (vI k2):=hcell 0 _ rfl;have x1:wr.cell? ⟨g,og+i * 8+1,none⟩=some (vI a2):=hcell 1 _ rfl;have x2:wr.cell? ⟨g,og+i * 8+2,none⟩=some (vS nm2):=hcell 2 _ rfl;have x3:wr.cell? ⟨g,og+i * 8+3,none⟩=some (vI n2):=hcell 3 _ rfl;have x4:wr.cell? ⟨g,og+i * 8+4,none⟩=some (vS s2):=hcell 4 _ rfl;have x5:wr.cell? ⟨g,og+i * 8+5,none⟩=some (.slice A52 m52 cc52):=hcell 5 _ rfl;have x6:wr.cell? ⟨g,og+i * 8+6,none⟩=some (.slice A62 m62 cc62):=hcell 6 _ rfl;have x7:wr.cell? ⟨g,og+i * 8+7,none⟩=some (.slice A72 m72 cc72):=hcell 7 _ rfl;have hsz2:=Et HY.out;have cP:=fun W (hW:Fr [] wr W)=>Hz (IH.out k2 a2 nm2 n2 s2 ls2 args2 arms2 (.slice A52 m52 cc52) (.slice A62 m62 cc62) (.slice A72 m72 cc72) (d+1) (D+1) W τ (by have:=HN.out;omega) (by rw[HD.out];simp) (by omega) (by have:=f.size;have:=hW.size;omega) (hyw.keep (Sh.of_fr hW (fun b hb hlt=>⟨hb,fun x=>by cases x⟩))) (hs.fr hW) hok.out)
     have hDQ:=HDQ.out;clear hcell hci hcc hcs hcl hyw hg;have q1:(0:Int)≤(i:Int):=by omega
     have q2:(i:Int)<(args.length:Int):=by omega
     have q0:=Hz q0;go_wp2_with fail;have fb:Fr [] wr (wr.alloc (.cells #[vI k2,vI a2,vS nm2,vI n2,vS s2,.slice A52 m52 cc52,.slice A62 m62 cc62,.slice A72 m72 cc72] 35)):=(Fr.refl [] wr).alloc _;refine(cP _ fb).out.mono ?_;rintro e w3 ⟨rfl,hs3,f3⟩;clear x0 x1 x2 x3 x4 x5 x6 x7 cP hDQ;have q0:=f3.keep (Af q0.out (.cells #[vI k2,vI a2,vS nm2,vI n2,vS s2,.slice A52 m52 cc52,.slice A62 m62 cc62,.slice A72 m72 cc72] 35)) (by simp;omega);have f3:=(fb.mono (L':=[pn]) (fun x hx=>by cases hx)).trans f3;have f4:=f.trans f3
     cases hb2:(goL (C1 most) τ (Bw (.mk k2 a2 nm2 n2 s2 ls2 args2 arms2) (d+1))).2 with
     | false =>
      go_wp2_with fail;go_ret;have e:R=((goL (C1 most) τ (Bw (.mk k2 a2 nm2 n2 s2 ls2 args2 arms2) (d+1))).1,false):=by rw[HG.out,Hf HY.out,Ls',Eo,if_neg (by rw[hb2];decide)]
      rw[e]
      exact⟨rfl,hs3,f4⟩
     | true =>
      have HG2:Hid (R=goL (C1 most) (goL (C1 most) τ (Bw (.mk k2 a2 nm2 n2 s2 ls2 args2 arms2) (d+1))).1 (C5 (args.drop (i+1)) (d+1)++B9 arms (d+1))):=Hz (by rw[HG.out,Hf HY.out,Ls',Eo,if_pos hb2]);have hok3:Hid ((goL (C1 most) τ (Bw (.mk k2 a2 nm2 n2 s2 ls2 args2 arms2) (d+1))).1≤most):=Hz (Sk hok.out hb2);clear hb2 HG hok;have q0:=Hz q0;go_wp2_with fail
      go_roundw
      case rel=>exact⟨i+1,_,by simp,by omega,hs3,hok3,f4,q0.out,HG2⟩
      case measure=>simp[intOf];omega
   ·have ei:i=args.length:=by omega
    subst ei;obtain⟨⟨l0,l1,l2,l3,l4,l5,l6,l7⟩,_⟩:=Ac q0;have HG2:Hid (R=goL (C1 most) τ (B9 (arms.drop 0) (d+1))):=Hz (by rw[HG.out,List.drop_length];simp[C5]);clear HG q0;go_wp2_with fail;clear l0 l1 l2 l3 l4 l5 l6 l7
    go_loopw [34] (fun iv wr=>∃ (i:Nat) (τ:Int),iv=vI i∧i≤arms.length∧CS pn pm most τ wr∧Hid (τ≤most)∧Fr [pn] w wr∧Hid (R=goL (C1 most) τ (B9 (arms.drop i) (d+1)))) (fun iv wr=>arms.length-(intOf iv).toNat)
    case atStart=>exact⟨0,_,rfl,by omega,hs,hok,f,HG2⟩
    case round =>
     clear HG2 hs hok hTw f;obtain⟨i,τ',rfl,hi',hs,hok,f,HG⟩:=hrel;by_cases hlt:i<arms.length
     ·obtain⟨p,y,hy⟩:∃ p y,arms[i]?=some (p,y):=⟨(arms[i]).1,(arms[i]).2,Lg' hlt⟩
      have HY:=Hz hy;clear hy;have hpx:=E7.out i p y HY.out;have hyx:=E8.out i p y HY.out
      rcases H7.out with⟨_,_,_,hl⟩| ⟨g,og,c',hv,hg,hgs,_,hcs⟩
      ·omega
      ·cases hv;obtain⟨hcl,hcc⟩:=hcs i hlt;have hcell:∀ (j:Nat) (v:Value),(cp i++ce i)[j]?=some v→wr.cell? ⟨g,og+i * 15+j,none⟩=some v:=fun j v hj=>(f.cell (p:=⟨g,og+i * 15+j,none⟩) hgs (by simp;omega)).trans (hcc j v hj)
       have hgw:g<wr.heap.size:=Nl' hgs (by have:=f.size;omega);clear hcc hcs
       generalize hci:cp i=ci at *
       generalize hce:ce i=cj at *
       have hyw:=hyx.keep (w':=wr) (ok':=fun b=>b<lo) (Sh.of_fr f (fun b hb hlt=>⟨hb,by simp;omega⟩));have hpw:=hpx.keep (w':=wr) (ok':=fun b=>b<lo) (Sh.of_fr f (fun b hb hlt=>⟨hb,by simp;omega⟩))
       cases hpx with
       | @mk k3 a3 nm3 n3 s3 ls3 args3 v53 v63 c53 c63 h53 e53 h63 e63 =>
       cases hyx with
       | @mk k2 a2 nm2 n2 s2 ls2 args2 arms2 v52 v62 v72 c52 c62 cp2 ce2 h52 e52 h62 e62 h72 e72 e82 =>
       have hf:∃ A m cc,v53 = .slice A m cc:=by obtain⟨_,_,hv⟩:=h53.form;exact⟨_,_,_,hv⟩
       obtain⟨A53,m53,cc53,rfl⟩:=hf;have hf:∃ A m cc,v63 = .slice A m cc:=by obtain⟨_,_,hv⟩:=h63.form;exact⟨_,_,_,hv⟩
       obtain⟨A63,m63,cc63,rfl⟩:=hf;have hf:∃ A m cc,v52 = .slice A m cc:=by obtain⟨_,_,hv⟩:=h52.form;exact⟨_,_,_,hv⟩
       obtain⟨A52,m52,cc52,rfl⟩:=hf;have hf:∃ A m cc,v62 = .slice A m cc:=by obtain⟨_,_,hv⟩:=h62.form;exact⟨_,_,_,hv⟩
       obtain⟨A62,m62,cc62,rfl⟩:=hf;have hf:∃ A m cc,v72 = .slice A m cc:=by obtain⟨_,_,hv⟩:=h72.form;exact⟨_,_,_,hv⟩
       obtain⟨A72,m72,cc72,rfl⟩:=hf;clear h52 e52 h62 e62 h72 e72 e82 h53 e53 h63 e63;have x0:wr.cell? ⟨g,og+i * 15,none⟩=some (vI k3):=hcell 0 _ rfl;have x1:wr.cell? ⟨g,og+i * 15+1,none⟩=some (vI a3):=hcell 1 _ rfl;have x2:wr.cell? ⟨g,og+i * 15+2,none⟩=some (vS nm3):=hcell 2 _ rfl;have x3:wr.cell? ⟨g,og+i * 15+3,none⟩=some (vI n3):=hcell 3 _ rfl;have x4:wr.cell? ⟨g,og+i * 15+4,none⟩=some (vS s3):=hcell 4 _ rfl;have x5:wr.cell? ⟨g,og+i * 15+5,none⟩=some (.slice A53 m53 cc53):=hcell 5 _ rfl;have x6:wr.cell? ⟨g,og+i * 15+6,none⟩=some (.slice A63 m63 cc63):=hcell 6 _ rfl;have x7:wr.cell? ⟨g,og+i * 15+7,none⟩=some (vI k2):=hcell 7 _ rfl;have x8:wr.cell? ⟨g,og+i * 15+8,none⟩=some (vI a2):=hcell 8 _ rfl;have x9:wr.cell? ⟨g,og+i * 15+9,none⟩=some (vS nm2):=hcell 9 _ rfl;have x10:wr.cell? ⟨g,og+i * 15+10,none⟩=some (vI n2):=hcell 10 _ rfl;have x11:wr.cell? ⟨g,og+i * 15+11,none⟩=some (vS s2):=hcell 11 _ rfl;have x12:wr.cell? ⟨g,og+i * 15+12,none⟩=some (.slice A52 m52 cc52):=hcell 12 _ rfl;have x13:wr.cell? ⟨g,og+i * 15+13,none⟩=some (.slice A62 m62 cc62):=hcell 13 _ rfl;have x14:wr.cell? ⟨g,og+i * 15+14,none⟩=some (.slice A72 m72 cc72):=hcell 14 _ rfl;have hsz2:=Fd HY.out;have cP:=fun W (hW:Fr [] wr W)=>Hz (Rr pn pm most lo hl (szP (.mk k3 a3 nm3 n3 s3 ls3 args3)+1) k3 a3 nm3 n3 s3 ls3 args3 (.slice A53 m53 cc53) (.slice A63 m63 cc63) (d+1) (D+1) W τ' (by omega) (by rw[HD.out];simp) (by omega) (by have:=f.size;have:=hW.size;omega) (hpw.keep (Sh.of_fr hW (fun b hb hlt=>⟨hb,fun x=>by cases x⟩))) (hs.fr hW) hok.out)
       have cE:=fun W (hW:Fr [pn] wr W) τ2 (hs2:CS pn pm most τ2 W) (hok2:τ2≤most)=>Hz (IH.out k2 a2 nm2 n2 s2 ls2 args2 arms2 (.slice A52 m52 cc52) (.slice A62 m62 cc62) (.slice A72 m72 cc72) (d+1) (D+1) W τ2 (by have:=HN.out;omega) (by rw[HD.out];simp) (by omega) (by have:=f.size;have:=hW.size;omega) (hyw.keep (Sh.of_fr hW (fun b hb hlt=>⟨hb,by simp;omega⟩))) hs2 hok2)
       have hDQ:=HDQ.out;clear hcell hci hce hcl hyw hpw hg;have q1:(0:Int)≤(i:Int):=by omega
       have q2:(i:Int)<(arms.length:Int):=by omega
       go_wp2_with fail;have fb:Fr [] wr (wr.alloc (.cells #[vI k3,vI a3,vS nm3,vI n3,vS s3,.slice A53 m53 cc53,.slice A63 m63 cc63,vI k2,vI a2,vS nm2,vI n2,vS s2,.slice A52 m52 cc52,.slice A62 m62 cc62,.slice A72 m72 cc72] 46)):=(Fr.refl [] wr).alloc _;have qb:=Ad wr (.cells #[vI k3,vI a3,vS nm3,vI n3,vS s3,.slice A53 m53 cc53,.slice A63 m63 cc63,vI k2,vI a2,vS nm2,vI n2,vS s2,.slice A52 m52 cc52,.slice A62 m62 cc62,.slice A72 m72 cc72] 46);have hTb:wr.heap.size<(wr.alloc (.cells #[vI k3,vI a3,vS nm3,vI n3,vS s3,.slice A53 m53 cc53,.slice A63 m63 cc63,vI k2,vI a2,vS nm2,vI n2,vS s2,.slice A52 m52 cc52,.slice A62 m62 cc62,.slice A72 m72 cc72] 46)).heap.size:=Aa qb;refine(cP _ fb).out.mono ?_;rintro e w3 ⟨rfl,hs3,f3⟩;clear cP x0 x1 x2 x3 x4 x5 x6 x7 x8 x9 x10 x11 x12 x13 x14;have qb:=f3.keep qb (by simp;have:=f.size;omega);have f3:=(fb.mono (L':=[pn]) (fun x hx=>by cases hx)).trans f3;have f4:=f.trans f3;have hTb3:=Aa qb
       have M15:w3.cell? ⟨wr.heap.size,0,none⟩=some (vI k3)∧w3.cell? ⟨wr.heap.size,1,none⟩=some (vI a3)∧w3.cell? ⟨wr.heap.size,2,none⟩=some (vS nm3)∧w3.cell? ⟨wr.heap.size,3,none⟩=some (vI n3)∧w3.cell? ⟨wr.heap.size,4,none⟩=some (vS s3)∧w3.cell? ⟨wr.heap.size,5,none⟩=some (.slice A53 m53 cc53)∧w3.cell? ⟨wr.heap.size,6,none⟩=some (.slice A63 m63 cc63)∧w3.cell? ⟨wr.heap.size,7,none⟩=some (vI k2)∧w3.cell? ⟨wr.heap.size,8,none⟩=some (vI a2)∧w3.cell? ⟨wr.heap.size,9,none⟩=some (vS nm2)∧w3.cell? ⟨wr.heap.size,10,none⟩=some (vI n2)∧w3.cell? ⟨wr.heap.size,11,none⟩=some (vS s2)∧w3.cell? ⟨wr.heap.size,12,none⟩=some (.slice A52 m52 cc52)∧w3.cell? ⟨wr.heap.size,13,none⟩=some (.slice A62 m62 cc62)∧w3.cell? ⟨wr.heap.size,14,none⟩=some (.slice A72 m72 cc72):=⟨Ae qb 0,Ae qb 1,Ae qb 2,Ae qb 3,Ae qb 4,Ae qb 5,Ae qb 6,Ae qb 7,Ae qb 8,Ae qb 9,Ae qb 10,Ae qb 11,Ae qb 12,Ae qb 13,Ae qb 14⟩
       obtain⟨m0,m1,m2,m3,m4,m5,m6,m7,m8,m9,m10,m11,m12,m13,m14⟩:=M15
       cases hb2:(goL (C1 most) τ' (Bz (.mk k3 a3 nm3 n3 s3 ls3 args3) (d+1))).2 with
       | false =>
        go_wp2_with fail;go_ret;have e:R=((goL (C1 most) τ' (Bz (.mk k3 a3 nm3 n3 s3 ls3 args3) (d+1))).1,false):=by rw[HG.out,He HY.out,Eo,if_neg (by rw[hb2];decide)]
        rw[e]
        exact⟨rfl,hs3,f4⟩
       | true =>
        have hok3:Hid ((goL (C1 most) τ' (Bz (.mk k3 a3 nm3 n3 s3 ls3 args3) (d+1))).1≤most):=Hz (Sk hok.out hb2);have HG2:Hid (R=goL (C1 most) (goL (C1 most) τ' (Bz (.mk k3 a3 nm3 n3 s3 ls3 args3) (d+1))).1 (Bw (.mk k2 a2 nm2 n2 s2 ls2 args2 arms2) (d+1)++B9 (arms.drop (i+1)) (d+1))):=Hz (by rw[HG.out,He HY.out,Eo,if_pos hb2]);clear hb2;go_wp2_with fail;refine(cE _ f3 _ hs3 hok3.out).out.mono ?_;rintro e w4 ⟨rfl,hs4,f5⟩;clear m0 m1 m2 m3 m4 m5 m6 m7 m8 m9 m10 m11 m12 m13 m14 cE hDQ;have f6:=f4.trans f5
        cases hb3:(goL (C1 most) (goL (C1 most) τ' (Bz (.mk k3 a3 nm3 n3 s3 ls3 args3) (d+1))).1 (Bw (.mk k2 a2 nm2 n2 s2 ls2 args2 arms2) (d+1))).2 with
        | false =>
         go_wp2_with fail;go_ret;have e:R=((goL (C1 most) (goL (C1 most) τ' (Bz (.mk k3 a3 nm3 n3 s3 ls3 args3) (d+1))).1 (Bw (.mk k2 a2 nm2 n2 s2 ls2 args2 arms2) (d+1))).1,false):=by rw[HG2.out,Eo,if_neg (by rw[hb3];decide)]
         rw[e]
         exact⟨rfl,hs4,f6⟩
        | true =>
         have hok4:Hid ((goL (C1 most) (goL (C1 most) τ' (Bz (.mk k3 a3 nm3 n3 s3 ls3 args3) (d+1))).1 (Bw (.mk k2 a2 nm2 n2 s2 ls2 args2 arms2) (d+1))).1≤most):=Hz (Sk hok3.out hb3);have HG3:Hid (R=goL (C1 most) (goL (C1 most) (goL (C1 most) τ' (Bz (.mk k3 a3 nm3 n3 s3 ls3 args3) (d+1))).1 (Bw (.mk k2 a2 nm2 n2 s2 ls2 args2 arms2) (d+1))).1 (B9 (arms.drop (i+1)) (d+1))):=Hz (by rw[HG2.out,Eo,if_pos hb3]);clear hb3 HG2 HG hok3 hok;go_wp2_with fail
         go_roundw
         case rel=>exact⟨i+1,_,by simp,by omega,hs4,hok4,f6,HG3⟩
         case measure=>simp[intOf];omega
     ·have ei:i=arms.length:=by omega
      subst ei;go_wp2_with fail;go_ret;have e:R=(τ',true):=by rw[HG.out,List.drop_length];simp[B9,goL]
      rw[e];exact⟨rfl,hs,f⟩
theorem R7(pn pm:Nat)(most:Int)(lo:Nat)(hl:lo≤pn):∀ N,WTC pn pm most lo N
 | 0=>fun _ _ _ _ _ _ _ _ _ _ _ _ _ _ _ h=>absurd h (Nat.not_lt_zero _)
 | N+1=>X3 pn pm most lo hl N (R7 pn pm most lo hl N)
end
theorem Jq(n:Int)(t:Tok)(A:Option Addr)(m c:Nat)(w:World):
  Calls prog 122 #[vI n,.agg #[vI t.k,vI t.at',.string ⟨t.text.toArray⟩,vI t.n],.slice A m c] w fun e w' =>
   e = .returned (.agg #[vI 19,vI t.at',vE,vI n,vE,vZ,.slice A m c,vZ])∧Fr [] w w':=by
 obtain⟨tk,ta,tt,tn⟩:=t;simp only;go_enter func122,ntmps122;go_wp2_with fail;refine bodyPost_ret (v:=.agg #[vI 19,vI ta,vE,vI n,vE,vZ,.slice A m c,vZ]) ?_ rfl ?_
 ·simp[results,Tryz.f122,go_sem]
 ·exact⟨rfl,((Fr.refl [] w).alloc _).alloc _⟩
theorem Lk(s:LB)(w:World):
  Calls prog 202 #[vS s] w fun e w'=>e = .returned (vI (A1 s))∧w=w':=by
 cases b0:(s==[61])with
 | true =>
  have hv:A1 s=7:=by rw[eq_of_beq b0];rfl
  rw[hv];go_enter func202,ntmps202;go_wp2_with fail;go_ret
  exact⟨rfl,rfl⟩
 | false =>
  cases b1:(s==[60])with
  | true =>
   have hv:A1 s=8:=by rw[eq_of_beq b1];rfl
   rw[hv];go_enter func202,ntmps202;go_wp2_with fail;go_ret
   exact⟨rfl,rfl⟩
  | false =>
   cases b2:(s==[43])with
   | true =>
    have hv:A1 s=1:=by rw[eq_of_beq b2];rfl
    rw[hv];go_enter func202,ntmps202;go_wp2_with fail;go_ret
    exact⟨rfl,rfl⟩
   | false =>
    cases b3:(s==[45])with
    | true =>
     have hv:A1 s=2:=by rw[eq_of_beq b3];rfl
     rw[hv];go_enter func202,ntmps202;go_wp2_with fail;go_ret
     exact⟨rfl,rfl⟩
    | false =>
     cases b4:(s==[42])with
     | true =>
      have hv:A1 s=3:=by rw[eq_of_beq b4];rfl
      rw[hv];go_enter func202,ntmps202;go_wp2_with fail;go_ret
      exact⟨rfl,rfl⟩
     | false =>
      cases b5:(s==[47])with
      | true =>
       have hv:A1 s=4:=by rw[eq_of_beq b5];rfl
       rw[hv];go_enter func202,ntmps202;go_wp2_with fail;go_ret
       exact⟨rfl,rfl⟩
      | false =>
       have hv:A1 s=5:=by unfold A1;rw[if_neg (bN.1 b0),if_neg (bN.1 b1),if_neg (bN.1 b2),if_neg (bN.1 b3),if_neg (bN.1 b4),if_neg (bN.1 b5)]
       rw[hv];go_enter func202,ntmps202;go_wp2_with fail;go_ret;exact⟨rfl,rfl⟩
theorem O9(s:LB)(w:World):
  Calls prog 222 #[vS s] w fun e w'=>e = .returned (.tuple #[vI (Bb s).1,vI ((Bb s).2:Nat)])∧w=w':=by
 cases b0:(s==[114,101,102])with
 | true =>
  have hv:Bb s=(10,1):=by rw[eq_of_beq b0];rfl
  rw[hv];go_enter func222,ntmps222;go_wp2_with fail;go_ret2
  exact⟨rfl,rfl⟩
 | false =>
  cases b1:(s==[108,101,110])with
  | true =>
   have hv:Bb s=(16,1):=by rw[eq_of_beq b1];rfl
   rw[hv];go_enter func222,ntmps222;go_wp2_with fail;go_ret2
   exact⟨rfl,rfl⟩
  | false =>
   cases b2:(s==[115,105,122,101])with
   | true =>
    have hv:Bb s=(17,1):=by rw[eq_of_beq b2];rfl
    rw[hv];go_enter func222,ntmps222;go_wp2_with fail;go_ret2
    exact⟨rfl,rfl⟩
   | false =>
    cases b3:(s==[103,101,116,99])with
    | true =>
     have hv:Bb s=(20,1):=by rw[eq_of_beq b3];rfl
     rw[hv];go_enter func222,ntmps222;go_wp2_with fail;go_ret2
     exact⟨rfl,rfl⟩
    | false =>
     cases b4:(s==[112,117,116,99])with
     | true =>
      have hv:Bb s=(21,1):=by rw[eq_of_beq b4];rfl
      rw[hv];go_enter func222,ntmps222;go_wp2_with fail;go_ret2
      exact⟨rfl,rfl⟩
     | false =>
      cases b5:(s==[97,114,114,97,121])with
      | true =>
       have hv:Bb s=(13,2):=by rw[eq_of_beq b5];rfl
       rw[hv];go_enter func222,ntmps222;go_wp2_with fail;go_ret2
       exact⟨rfl,rfl⟩
      | false =>
       cases b6:(s==[103,101,116])with
       | true =>
        have hv:Bb s=(14,2):=by rw[eq_of_beq b6];rfl
        rw[hv];go_enter func222,ntmps222;go_wp2_with fail;go_ret2
        exact⟨rfl,rfl⟩
       | false =>
        cases b7:(s==[98,121,116,101])with
        | true =>
         have hv:Bb s=(18,2):=by rw[eq_of_beq b7];rfl
         rw[hv];go_enter func222,ntmps222;go_wp2_with fail;go_ret2
         exact⟨rfl,rfl⟩
        | false =>
         cases b8:(s==[99,97,116])with
         | true =>
          have hv:Bb s=(19,2):=by rw[eq_of_beq b8];rfl
          rw[hv];go_enter func222,ntmps222;go_wp2_with fail;go_ret2
          exact⟨rfl,rfl⟩
         | false =>
          cases b9:(s==[115,101,116])with
          | true =>
           have hv:Bb s=(15,3):=by rw[eq_of_beq b9];rfl
           rw[hv];go_enter func222,ntmps222;go_wp2_with fail;go_ret2
           exact⟨rfl,rfl⟩
          | false =>
           have hv:Bb s=(0,0):=by unfold Bb;rw[if_neg (bN.1 b0),if_neg (bN.1 b1),if_neg (bN.1 b2),if_neg (bN.1 b3),if_neg (bN.1 b4),if_neg (bN.1 b5),if_neg (bN.1 b6),if_neg (bN.1 b7),if_neg (bN.1 b8),if_neg (bN.1 b9)]
           rw[hv];go_enter func222,ntmps222;go_wp2_with fail;go_ret2;exact⟨rfl,rfl⟩
end Go.Proofs.YtabhpdhajajoiaaGreatDoor
