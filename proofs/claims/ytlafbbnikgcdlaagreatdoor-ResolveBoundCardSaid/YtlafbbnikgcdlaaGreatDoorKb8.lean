/- A part of the proof: P1, P2, P3, Wa, WbC, WcC, WbD, WcD, Wd, Pd. -/
import Derived.Deep.RegionHeld3
import Derived.RegionTactic
import Derived.ChangeAlike
import Derived.BigRegion
import Derived.BigQuiet
import Derived.Deep.QuietTactic
import Derived.Deep.DrawnRows
import Derived.Test.YtlafbbnikgcdlaaGreatDoorKb4
import Derived.Test.YtlafbbnikgcdlaaGreatDoorKb5
import Derived.Test.YtlafbbnikgcdlaaGreatDoorKb6
namespace Go.Proofs.YtlafbbnikgcdlaaGreatDoor
open Go.RowKit
open _root_.Go.Proofs.Tryz
set_option linter.all false
set_option maxHeartbeats 16000000
set_option maxRecDepth 100000
variable{p:Prop}
open List renaming getElem?_eq_getElem→Lg',append_assoc→Ls'
open Nat renaming lt_of_lt_of_le→Nl'
open Bool renaming and_eq_true→Ba'
def Gm(g:Nat)(l:List LB)(w:World):Prop:=∀ (i:Nat)(x:LB),l[i]?=some x→w.cell? ⟨g,i,none⟩=some (vS x)
def IdxP(b:Bool)(w:World)(e:Ending)(w':World):Prop:=∃ n:Int,e = .returned (vI n)∧decide (0≤n)=b∧w=w'
theorem Index_any(g c:Nat)(l:List LB)(x:ByteArray)(hl:l.length≤1000)(w:World)(h:Gm g l w):
  Calls prog 118 #[.slice (some ⟨g,0,none⟩) l.length c,.string x] w (IdxP (l.contains x.data.toList) w):=by
 have HX:Hid (∀ j (hj:j<l.length),l[j]=x.data.toList→l.contains x.data.toList=true):=Hz (fun j hj e=>List.contains_iff_mem.2 (e ▸ List.getElem_mem hj))
 have HN:Hid ((∀ j (hj:j<l.length),l[j]≠x.data.toList)→l.contains x.data.toList=false):=Hz (fun hn=>by
  rw[Bool.eq_false_iff]
  intro hc
  obtain⟨j,hj,e⟩:=List.mem_iff_getElem.1 (List.contains_iff_mem.1 hc)
  exact hn j hj e)
 generalize l.contains x.data.toList=R at *
 have HC:=Hz h;clear h;go_enter func118,ntmps118;go_wp2_with fail
 go_loop [8] (fun i=>∃ k:Nat,i=vI k∧k≤l.length∧Hid (∀ j (hj:j<l.length),j<k→l[j]≠x.data.toList)) (fun i=>l.length-(intOf i).toNat)
 case atStart=>exact⟨0,rfl,oM,Hz (fun j _ h=>absurd h oM)⟩
 case round =>
  obtain⟨k,rfl,hk,HK⟩:=hrel;by_cases hlt:k<l.length
  ·have hcell:=HC.out k _ (Lg' hlt);have HX1:=Hz (HX.out k hlt)
   have HS:l[k]≠x.data.toList→Hid (∀ j (hj:j<l.length),j<k+1→l[j]≠x.data.toList):=fun hne=>Hz (fun j hj h=>by
    rcases Nat.lt_or_ge j k with h1|h1
    ·exact HK.out j hj h1
    ·have:j=k:=by omega
     subst this;exact hne)
   by_cases hq:l[k]=x.data.toList
   ·have hR:=HX1.out hq;subst hR;have hq2:(x.toList==l[k])=true:=by rw[ByteArray.toList_eq,hq];simp
    exact qq295
   ·have HS2:=HS hq;have hq2:(x.toList==l[k])=false:=by rw[ByteArray.toList_eq,bN];exact fun h=>hq h.symm
    clear hq HS HX1;exact qq159
  ·exact qq285
theorem Q3(g c:Nat)(l:List LB)(x:ByteArray)(hl:l.length≤1000)(w:World)(h:Gm g l w):
  Calls prog 92 #[.slice (some ⟨g,0,none⟩) l.length c,.string x] w fun e w'=>e = .returned (.bool (l.contains x.data.toList))∧w=w':=by
 have ci:=Hz (Index_any g c l x hl w h)
 generalize l.contains x.data.toList=R at *
 clear h;go_enter func92,ntmps92;go_wp2_with fail;refine ci.out.mono ?_;rintro e w1 ⟨n,rfl,rfl,rfl⟩;go_wp2_with fail;go_ret;exact qq288
structure PSt (P g c:Nat)(ts:List Tok)(st:St)(w:World):Prop where
 blk:w.heap[P]?=some (.cells #[.slice (some ⟨g,0,none⟩) ts.length c,vI (st.i:Nat),.bool st.ok] 49 (0,0))
 rt:RT g ts w
 lt:g<w.heap.size
 ne:g≠P
 inb:st.i<ts.length
theorem PSt.fr{P g c:Nat}{ts:List Tok}{st:St}{w w':World}(h:PSt P g c ts st w)(hf:Fr [] w w'):PSt P g c ts st w' :=
 ⟨hf.keep h.blk (fun x=>by cases x),h.rt.fr hf h.lt,Nl' h.lt hf.size,h.ne,h.inb⟩
theorem RT.frL{g:Nat}{ts:List Tok}{w w':World}{L:List Nat}(h:RT g ts w)(hf:Fr L w w')(hg:g<w.heap.size)(hn:g ∉ L):RT g ts w' :=
 ⟨fun k t hk=>(hf.cell (p:=⟨g,k * 4,none⟩) hg hn).trans (h.c0 k t hk),fun k t hk=>(hf.cell (p:=⟨g,k * 4+1,none⟩) hg hn).trans (h.c1 k t hk),fun k t hk=>(hf.cell (p:=⟨g,k * 4+2,none⟩) hg hn).trans (h.c2 k t hk),fun k t hk=>(hf.cell (p:=⟨g,k * 4+3,none⟩) hg hn).trans (h.c3 k t hk)⟩
def Cx(ts:List Tok):Prop:=ts.length≤4097∧∀ (i:Nat)(t:Tok),ts[i]?=some t→(t.k≠0↔i+1<ts.length)∧TokBd 4096 t
theorem Fp{x:World}{B:Nat}{T:TypeId}{a b c:Value}(h:x.heap[B]?=some (.cells #[a,b,c] T (0,0))):
  x.cell? ⟨B,0,none⟩=some a∧x.cell? ⟨B,1,none⟩=some b∧x.cell? ⟨B,2,none⟩=some c∧x.frozen? ⟨B,0,none⟩=false∧x.frozen? ⟨B,1,none⟩=false∧x.frozen? ⟨B,2,none⟩=false :=
 ⟨Ab h 0,Ab h 1,Ab h 2,Ap h 0,Ap h 1,Ap h 2⟩
theorem Cr(P g c:Nat)(ts:List Tok)(st:St)(t:Tok)(ht:ts[st.i]?=some t)(w:World)(h:PSt P g c ts st w)(hE:Cx ts):
  Calls prog 16 #[.pointer (some ⟨P,0,none⟩)] w fun e w'=>e = .returned (.agg #[vI t.k,vI t.at',.string ⟨t.text.toArray⟩,vI t.n])∧Fr [] w w':=by
 obtain⟨p0,p1,p2,_⟩:=Fp h.blk;have a0:=h.rt.c0 _ _ ht;have a1:=h.rt.c1 _ _ ht;have a2:=h.rt.c2 _ _ ht;have a3:=h.rt.c3 _ _ ht;have hin:=h.inb;have hts:=hE.1;have hP:=Aa h.blk;have hg:=h.lt;clear ht h hE;obtain⟨i,ok⟩:=st
 simp only at *
 obtain⟨tk,ta,tt,tn⟩:=t
 simp only at *
 have q1:(0:Int)≤(i:Int):=by omega
 have q2:(i:Int)<(ts.length:Int):=by omega
 go_enter func16,ntmps16;go_wp2_with fail;have f0:Fr [] w (w.alloc (.cells #[vI 0,vI 0,vE,vI 0] 52)):=(Fr.refl [] w).alloc _;have g0:=Ag w (.cells #[vI 0,vI 0,vE,vI 0] 52);have p0:=(f0.cell (p:=⟨P,0,none⟩) hP (fun x=>by cases x)).trans p0;have p1:=(f0.cell (p:=⟨P,1,none⟩) hP (fun x=>by cases x)).trans p1;have a0:=(f0.cell (p:=⟨g,i * 4,none⟩) hg (fun x=>by cases x)).trans a0;have a1:=(f0.cell (p:=⟨g,i * 4+1,none⟩) hg (fun x=>by cases x)).trans a1;have a2:=(f0.cell (p:=⟨g,i * 4+2,none⟩) hg (fun x=>by cases x)).trans a2;have a3:=(f0.cell (p:=⟨g,i * 4+3,none⟩) hg (fun x=>by cases x)).trans a3
 generalize (w.alloc (.cells #[vI 0,vI 0,vE,vI 0] 52))=w1 at *
 generalize hB:w.heap.size=B at *
 obtain⟨c0,c1,c2,c3,z0,z1,z2,z3⟩:=Ar g0;have gz:=L9 g0 (vI tk) (vI ta) (vS tt) (vI tn);have fz:=f0.store4 hB (vI tk) (vI ta) (vS tt) (vI tn);have HG:=Hz gz;have HF:=Hz fz;clear gz fz g0 f0;have n1:¬ P=B:=by omega
 have n2:¬ B=P:=by omega
 have n3:¬ g=B:=by omega
 have n4:¬ B=g:=by omega
 go_region_held3 (fun w'=>w'.cell? ⟨P,0,none⟩=some (.slice (some ⟨g,0,none⟩) ts.length c)∧w'.cell? ⟨P,1,none⟩=some (vI i)∧w'.cell? ⟨g,i * 4,none⟩=some (vI tk)∧w'.cell? ⟨g,i * 4+1,none⟩=some (vI ta)∧w'.cell? ⟨g,i * 4+2,none⟩=some (vS tt)∧w'.cell? ⟨g,i * 4+3,none⟩=some (vI tn)) (go_keep) (fail)
 generalize (((w1.setCell ⟨B,0,none⟩ (vI tk)).setCell ⟨B,1,none⟩ (vI ta)).setCell ⟨B,2,none⟩ (vS tt)).setCell ⟨B,3,none⟩ (vI tn)=Z at HG HF ⊢;obtain⟨d0,d1,d2,d3,_⟩:=Ar HG.out;go_wp2_with fail;refine bodyPost_ret (v:=.agg #[vI tk,vI ta,vS tt,vI tn]) ?_ rfl ?_
 ·simp[results,Tryz.f16,go_sem,d0,d1,d2,d3]
 ·exact⟨rfl,HF.out.drew⟩
theorem Cl{x:World}{B:Nat}{T:TypeId}{cs:Array Value}(h:x.heap[B]?=some (.cells cs T (0,0)))(i:Nat)(v:Value):(x.setCell ⟨B,i,none⟩ v).heap[B]?=some (.cells (cs.setIfInBounds i v) T (0,0)):=by
 exact qq272
theorem PSt.set1{P g c:Nat}{ts:List Tok}{st:St}{w:World}(h:PSt P g c ts st w)(hi:st.i+1<ts.length)(n:Int)(hn:n=((st.i+1:Nat):Int)):PSt P g c ts ⟨st.i+1,st.ok⟩ (w.setCell ⟨P,1,none⟩ (vI n)):=by
 have hf:Fr [P] w (w.setCell ⟨P,1,none⟩ (vI n)):=(Fr.refl [P] w).setCell (.inl sM) _;subst hn;exact⟨by have:=Cl h.blk 1 (vI ((st.i+1:Nat):Int));simpa using this,h.rt.frL hf h.lt (by simpa using h.ne),Nl' h.lt hf.size,h.ne,hi⟩
theorem PSt.set2{P g c:Nat}{ts:List Tok}{st:St}{w:World}(h:PSt P g c ts st w):PSt P g c ts ⟨st.i,false⟩ (w.setCell ⟨P,2,none⟩ (.bool false)):=by
 have hf:Fr [P] w (w.setCell ⟨P,2,none⟩ (.bool false)):=(Fr.refl [P] w).setCell (.inl sM) _;exact⟨by have:=Cl h.blk 2 (.bool false);simpa using this,h.rt.frL hf h.lt (by simpa using h.ne),Nl' h.lt hf.size,h.ne,h.inb⟩
theorem PSt.own{P g c:Nat}{ts:List Tok}{st:St}{w:World}(h:PSt P g c ts st w){p:Addr}(hp:P≠p.block)(hg:g≠p.block)(v:Value):PSt P g c ts st (w.setCell p v):=by
 have hf:Fr [p.block] w (w.setCell p v):=(Fr.refl [p.block] w).setCell (.inl sM) _;exact⟨hf.keep h.blk (by simpa using hp),h.rt.frL hf h.lt (by simpa using hg),Nl' h.lt hf.size,h.ne,h.inb⟩
theorem Ky(P g c:Nat)(ts:List Tok)(st:St)(w:World)(h:PSt P g c ts st w):
  Calls prog 107 #[.pointer (some ⟨P,0,none⟩)] w fun e w'=>e = .returned (.tuple #[])∧PSt P g c ts ⟨st.i,false⟩ w'∧Fr [P] w w':=by
 have h2:=Hz h.set2;have hf:Fr [P] w (w.setCell ⟨P,2,none⟩ (.bool false)):=(Fr.refl [P] w).setCell (.inl sM) _;obtain⟨p0,p1,p2,y0,y1,y2⟩:=Fp h.blk;clear h;go_enter func107,ntmps107;go_wp2_with fail
 go_end0
 exact⟨rfl,h2.out,hf⟩
theorem Et(P g c:Nat)(ts:List Tok)(st:St)(t:Tok)(ht:ts[st.i]?=some t)(hok:st.ok=true)(hk:t.k≠0)(w:World)(h:PSt P g c ts st w)(hE:Cx ts):
  Calls prog 74 #[.pointer (some ⟨P,0,none⟩)] w fun e w'=>e = .returned (.agg #[vI t.k,vI t.at',.string ⟨t.text.toArray⟩,vI t.n])∧PSt P g c ts ⟨st.i+1,st.ok⟩ w'∧Fr [P] w w':=by
 have hi1:=(hE.2 _ _ ht).1.1 hk;have cn:=fun w h=>Hz (Cr P g c ts st t ht w h hE)
 have hts:=hE.1;have hP:=Aa h.blk;have hgl:=h.lt;have H:=Hz h;clear h hE ht;obtain⟨i,ok⟩:=st;simp only at hok hi1;subst hok;obtain⟨tk,ta,tt,tn⟩:=t;simp only at hk cn ⊢;have d0:(tk != 0)=true:=by rw[bne_iff_ne];exact hk
 have d00:(tk==0)=false:=by rw[bN];exact hk
 clear hk;go_enter func74,ntmps74;go_wp2_with fail;have f0:Fr [] w (w.alloc (.cells #[vI 0,vI 0,vE,vI 0] 52)):=(Fr.refl [] w).alloc _;have g0:=Ag w (.cells #[vI 0,vI 0,vE,vI 0] 52)
 generalize (w.alloc (.cells #[vI 0,vI 0,vE,vI 0] 52))=w1 at *
 generalize hB:w.heap.size=B at *
 refine(cn _ (H.out.fr f0)).out.mono ?_;rintro e x1 ⟨rfl,f1⟩;have g1:=f1.keep g0 nE;have h1:=H.out.fr (f0.trans f1);have hP1:=Aa h1.blk;have hB1:=Aa g1;obtain⟨p0,p1,p2,y0,y1,y2⟩:=Fp h1.blk;obtain⟨c0,c1,c2,c3,z0,z1,z2,z3⟩:=Ar g1;have n1:¬ P=B:=by omega
 have n2:¬ B=P:=by omega
 have n7:¬ g=B:=by omega
 have n8:¬ P=x1.heap.size:=by omega
 have n9:¬ B=x1.heap.size:=by omega
 have g0':=(Fr.setCell (L:=[P]) (Fr.refl [P] x1) (p:=⟨P,1,none⟩) (.inl sM) (vI ((i:Int)+1))).keep g1 (by simpa using n2);have HG:=Hz (L9 g0' (vI tk) (vI ta) (vS tt) (vI tn));have HP:=Hz ((((h1.set1 hi1 ((i:Int)+1) sM).own (p:=⟨B,0,none⟩) n1 n7 (vI tk)).own (p:=⟨B,1,none⟩) n1 n7 (vI ta)).own (p:=⟨B,2,none⟩) n1 n7 (vS tt)|>.own (p:=⟨B,3,none⟩) n1 n7 (vI tn));have HF:=Hz (((((((f0.trans f1).mono (L':=[P]) (fun x hx=>by cases hx)).setCell (p:=⟨P,1,none⟩) (.inl sM) (vI ((i:Int)+1))).setCell (p:=⟨B,0,none⟩) (.inr (by simp[hB])) (vI tk)).setCell (p:=⟨B,1,none⟩) (.inr (by simp[hB])) (vI ta)).setCell (p:=⟨B,2,none⟩) (.inr (by simp[hB])) (vS tt)).setCell (p:=⟨B,3,none⟩) (.inr (by simp[hB])) (vI tn));clear g0 g0' g1 h1 f1 f0 H;go_wp2_with fail;generalize ((((x1.setCell ⟨P,1,none⟩ (vI ((i:Int)+1))).setCell ⟨B,0,none⟩ (vI tk)).setCell ⟨B,1,none⟩ (vI ta)).setCell ⟨B,2,none⟩ (vS tt)).setCell ⟨B,3,none⟩ (vI tn)=Z at HG HF HP ⊢;obtain⟨d0,d1,d2,d3,_⟩:=Ar (Ae HG.out (.cells #[vI tk,vI ta,vS tt,vI tn] 52));refine bodyPost_ret (v:=.agg #[vI tk,vI ta,vS tt,vI tn]) ?_ rfl ?_
 ·simp[results,Tryz.f74,go_sem,d0,d1,d2,d3]
 ·exact⟨rfl,HP.out.fr ((Fr.refl [] Z).alloc _),HF.out.alloc _⟩
theorem nn362(h:p:=by
 go_ret;exact⟨rfl,f1.alloc _⟩):p:=h
theorem nn363(h:p:=by
 have fa:=f1.alloc (.cells #[vI tk,vI ta,vS tt,vI tn] 52);refine(cc _ (fun i x hi=>(fa.cell (p:=⟨gl,i,none⟩) hgl (fun x=>by cases x)).trans (HS.out i x hi))).out.mono ?_;rintro e x2 ⟨rfl,rfl⟩;go_wp2_with fail;go_ret;exact⟨rfl,fa⟩):p:=h
theorem nn364(h:p:=by
 go_ret;exact⟨rfl,f1.alloc _⟩):p:=h
theorem Ic(P g c:Nat)(ts:List Tok)(st:St)(t:Tok)(ht:ts[st.i]?=some t)(gl cl:Nat)(l:List LB)(hl:l.length≤100)(w:World)(h:PSt P g c ts st w)(hS:Gm gl l w)(hgl:gl<w.heap.size)(hE:Cx ts):
  Calls prog 69 #[.pointer (some ⟨P,0,none⟩),.slice (some ⟨gl,0,none⟩) l.length cl] w fun e w'=>e = .returned (.bool (isB t st.ok l))∧Fr [] w w':=by
 have cn:=fun w h=>Hz (Cr P g c ts st t ht w h hE)
 have cc:=fun w h=>Hz (Q3 gl cl l ⟨t.text.toArray⟩ oM w h)
 have hP:=Aa h.blk;have H:=Hz h;have HS:=Hz hS;clear h hE ht hS;obtain⟨i,ok⟩:=st;obtain⟨tk,ta,tt,tn⟩:=t;dsimp only at cn cc ⊢;have key:isB ⟨tk,ta,tt,tn⟩ ok l=(ok&&((tk==6)||(tk==7))&&l.contains tt):=rfl;rw[key];clear key
 generalize l.contains tt=R at *
 cases ok with
 | false =>
  go_enter func69,ntmps69;have kqq149:=@Hz _ @nn364
  exact qq149
 | true =>
  by_cases hk:(tk==6)=true∨((tk==6)=false∧(tk==7)=true)
  ·rcases hk with hk|⟨hk,hk7⟩
   all_goals
    simp only[*,Bool.true_and,Bool.true_or,Bool.or_true];go_enter func69,ntmps69;have kqq149:=@Hz _ @nn363;exact qq149
  ·have h6:(tk==6)=false:=by cases e:(tk==6)with|false=>rfl|true=>exact absurd (.inl e) hk
   have h7:(tk==7)=false:=by cases e:(tk==7)with|false=>rfl|true=>exact absurd (.inr ⟨h6,e⟩) hk
   clear hk;simp only[h6,h7,Bool.or_self,Bool.and_false,Bool.false_and];go_enter func69,ntmps69;have kqq149:=@Hz _ @nn362;exact qq149
section
variable {ts:List Tok} {st st':St} {r:Rs} {t:Tok} {s:LB}
theorem Run.isC_{l:List LB}{k:Bool→Cmd}{b:Bool}(ht:ts[st.i]?=some t)(hb:isB t st.ok l=b)(hk:Run ts (k b) st r st'):Run ts (isC l k) st r st':=.look ht (by rw[hb];exact hk)
theorem Run.may_yes{k:Bool→Cmd}(ht:ts[st.i]?=some t)(hb:isB t st.ok [s]=true)(hk:Run ts (k true) ⟨st.i+1,st.ok⟩ r st'):Run ts (Ed s k) st r st':=.look ht (by rw[if_pos hb];exact .adv hk)
theorem Run.may_no{k:Bool→Cmd}(ht:ts[st.i]?=some t)(hb:isB t st.ok [s]=false)(hk:Run ts (k false) st r st'):Run ts (Ed s k) st r st':=.look ht (by rw[if_neg (by rw[hb];decide)];exact hk)
theorem Run.must_yes{k:Cmd}(ht:ts[st.i]?=some t)(hb:isB t st.ok [s]=true)(hk:Run ts k ⟨st.i+1,st.ok⟩ r st'):Run ts (Ch s k) st r st':=.look ht (by rw[if_pos hb];exact .adv hk)
theorem Run.must_no{k:Cmd}(ht:ts[st.i]?=some t)(hb:isB t st.ok [s]=false)(hk:Run ts k ⟨st.i,false⟩ r st'):Run ts (Ch s k) st r st':=.look ht (by rw[if_neg (by rw[hb];decide)];exact .fail hk)
theorem Run.name_yes{k:LB→Cmd}(ht:ts[st.i]?=some t)(hb:Nq t st.ok=true)(hk:Run ts (k t.text) ⟨st.i+1,st.ok⟩ r st'):Run ts (Hq k) st r st':=.look ht (by rw[if_pos hb];exact .adv hk)
theorem Run.name_no{k:LB→Cmd}(ht:ts[st.i]?=some t)(hb:Nq t st.ok=false)(hk:Run ts (k []) ⟨st.i,false⟩ r st'):Run ts (Hq k) st r st':=.look ht (by rw[if_neg (by rw[hb];decide)];exact .fail hk)
end
def Cf(t:Tok)(st:St)(s:LB):St:=if isB t st.ok [s]=true then ⟨st.i+1,st.ok⟩else ⟨st.i,false⟩
def El(t:Tok)(st:St):St:=if Nq t st.ok=true then ⟨st.i+1,st.ok⟩else ⟨st.i,false⟩
def Be(t:Tok)(st:St):LB:=if Nq t st.ok=true then t.text else []
theorem Run.must_{ts:List Tok}{st st':St}{r:Rs}{t:Tok}{s:LB}{k:Cmd}(ht:ts[st.i]?=some t)(hk:Run ts k (Cf t st s) r st'):Run ts (Ch s k) st r st':=by
 unfold Cf at hk
 cases hb:isB t st.ok [s] with
 | true=>rw[hb,if_pos rfl] at hk;exact .must_yes ht hb hk
 | false=>rw[hb,if_neg dC] at hk;exact .must_no ht hb hk
theorem Run.name_{ts:List Tok}{st st':St}{r:Rs}{t:Tok}{k:LB→Cmd}(ht:ts[st.i]?=some t)(hk:Run ts (k (Be t st)) (El t st) r st'):Run ts (Hq k) st r st':=by
 unfold El Be at hk
 cases hb:Nq t st.ok with
 | true=>rw[hb,if_pos rfl,if_pos rfl] at hk;exact .name_yes ht hb hk
 | false=>rw[hb,if_neg dC,if_neg dC] at hk;exact .name_no ht hb hk
theorem Jg{t:Tok}{ok:Bool}{l:List LB}(h:isB t ok l=true):ok=true∧t.k≠0:=by
 exact qq310
theorem Gm.lit(w:World)(l:List LB)(T:TypeId):Gm w.heap.size l (w.alloc (.cells (l.map fun s=>Value.string ⟨s.toArray⟩).toArray T)):=by
 intro i x hx;rw[Ab (Ag w _)];simp[hx]
theorem Gm.one(w:World)(s:LB)(T:TypeId):Gm w.heap.size [s] (w.alloc (.cells #[vS s] T)):=by
 intro i x hx
 have hi:i=0:=by
  rcases i with _|i
  ·rfl
  ·simp at hx
 subst hi;simp at hx;subst hx;rw[Ab (Ag w _)];rfl
theorem may_no(s:LB)(P g c:Nat)(ts:List Tok)(st:St)(t:Tok)(ht:ts[st.i]?=some t)(hb:isB t st.ok [s]=false)(w:World)(h:PSt P g c ts st w)(hE:Cx ts):
  Calls prog 31 #[.pointer (some ⟨P,0,none⟩),vS s] w fun e w'=>e = .returned (.bool false)∧Fr [] w w':=by
 have fa:=(Fr.refl [] w).alloc (.cells #[vS s] 9);have ci:=fun cl=>Hz (Ic P g c ts st t ht w.heap.size cl [s] sM (w.alloc (.cells #[vS s] 9)) (h.fr fa) (Gm.one w s _) sM hE)
 rw[hb] at ci;clear hb h hE ht;go_enter func31,ntmps31;go_wp2_with fail;refine(ci _).out.mono ?_;rintro e x1 ⟨rfl,f1⟩;go_wp2_with fail;go_ret;exact⟨rfl,fa.trans f1⟩
theorem may_yes(s:LB)(P g c:Nat)(ts:List Tok)(st:St)(t:Tok)(ht:ts[st.i]?=some t)(hb:isB t st.ok [s]=true)(w:World)(h:PSt P g c ts st w)(hE:Cx ts):
  Calls prog 31 #[.pointer (some ⟨P,0,none⟩),vS s] w fun e w'=>e = .returned (.bool true)∧PSt P g c ts ⟨st.i+1,st.ok⟩ w'∧Fr [P] w w':=by
 have fa:=(Fr.refl [] w).alloc (.cells #[vS s] 9);have ci:=fun cl=>Hz (Ic P g c ts st t ht w.heap.size cl [s] sM (w.alloc (.cells #[vS s] 9)) (h.fr fa) (Gm.one w s _) sM hE)
 rw[hb] at ci;have cn:=fun w h=>Hz (Et P g c ts st t ht (Jg hb).1 (Jg hb).2 w h hE)
 have H:=Hz h;clear hb h hE ht;go_enter func31,ntmps31;go_wp2_with fail;refine(ci _).out.mono ?_;rintro e x1 ⟨rfl,f1⟩;go_wp2_with fail;refine(cn _ (H.out.fr (fa.trans f1))).out.mono ?_;rintro e x2 ⟨rfl,h2,f2⟩;go_wp2_with fail;go_ret;exact⟨rfl,h2,((fa.trans f1).mono (fun x hx=>by cases hx)).trans f2⟩
theorem Cp(s:LB)(P g c:Nat)(ts:List Tok)(st:St)(t:Tok)(ht:ts[st.i]?=some t)(w:World)(h:PSt P g c ts st w)(hE:Cx ts):
  Calls prog 67 #[.pointer (some ⟨P,0,none⟩),vS s] w fun e w'=>e = .returned (.tuple #[])∧PSt P g c ts (Cf t st s) w'∧Fr [P] w w':=by
 unfold Cf
 cases hb:isB t st.ok [s] with
 | true =>
  rw[if_pos rfl];have cm:=Hz (may_yes s P g c ts st t ht hb w h hE);clear hb h hE ht;go_enter func67,ntmps67;go_wp2_with fail;refine cm.out.mono ?_;rintro e x1 ⟨rfl,h1,f1⟩;go_wp2_with fail
  go_end0
  exact⟨rfl,h1,f1⟩
 | false =>
  rw[if_neg dC];have cm:=Hz (may_no s P g c ts st t ht hb w h hE);have cf:=fun w h=>Hz (Ky P g c ts st w h)
  have H:=Hz h;clear hb h hE ht;go_enter func67,ntmps67;go_wp2_with fail;refine cm.out.mono ?_;rintro e x1 ⟨rfl,f1⟩;go_wp2_with fail;refine(cf _ (H.out.fr f1)).out.mono ?_;rintro e x2 ⟨rfl,h2,f2⟩;go_wp2_with fail
  go_end0
  exact qq273
theorem Od(a b c d:Value)(w:World):(Instr.field 52 (.agg #[a,b,c,d]) 0).run prog w = .ok a w:=by
 exact qq308
theorem tok_f1(a b c d:Value)(w:World):(Instr.field 52 (.agg #[a,b,c,d]) 1).run prog w = .ok b w:=by
 exact qq308
theorem tok_f2(a b c d:Value)(w:World):(Instr.field 52 (.agg #[a,b,c,d]) 2).run prog w = .ok c w:=by
 exact qq308
theorem tok_f3(a b c d:Value)(w:World):(Instr.field 52 (.agg #[a,b,c,d]) 3).run prog w = .ok d w:=by
 exact qq308
theorem J6(P g c:Nat)(ts:List Tok)(st:St)(t:Tok)(ht:ts[st.i]?=some t)(w:World)(h:PSt P g c ts st w)(hE:Cx ts):
  Calls prog 66 #[.pointer (some ⟨P,0,none⟩)] w fun e w'=>e = .returned (.string ⟨(Be t st).toArray⟩)∧PSt P g c ts (El t st) w'∧Fr [P] w w':=by
 have cn:=fun w h=>Hz (Cr P g c ts st t ht w h hE)
 have cf:=fun w h=>Hz (Ky P g c ts st w h)
 have H:=Hz h;have hP:=Aa h.blk;have r0:=Od;have r2:=tok_f2;obtain⟨p0,p1,p2,_⟩:=Fp h.blk;unfold El Be
 cases hok:st.ok with
 | false =>
  have e0:Nq t false=false:=rfl;rw[e0,if_neg dC,if_neg dC];rw[hok] at p2;clear h hE ht hok e0;go_enter func66,ntmps66;go_wp2_with fail;refine(cf _ H.out).out.mono ?_;rintro e x2 ⟨rfl,h2,f2⟩;go_wp2_with fail;go_ret
  exact⟨rfl,h2,f2⟩
 | true =>
  have e0:Nq t true=(t.k==1):=rfl;rw[e0];rw[hok] at p2
  cases hk:(t.k==1)with
  | false =>
   rw[if_neg dC,if_neg dC];have hk2:(t.k != 1)=true:=by rw[bne,hk];rfl
   clear h hE ht hok e0;go_enter func66,ntmps66;go_wp2_with fail;refine(cn _ H.out).out.mono ?_;rintro e x1 ⟨rfl,f1⟩;go_wp2_with fail;refine(cf _ (H.out.fr f1)).out.mono ?_;rintro e x2 ⟨rfl,h2,f2⟩;go_wp2_with fail;go_ret
   exact qq273
  | true =>
   rw[if_pos rfl,if_pos rfl];have hk2:(t.k != 1)=false:=by rw[bne,hk];rfl
   have cx:=fun w h=>Hz (Et P g c ts st t ht hok (by have:=beq_iff_eq.1 hk;omega) w h hE)
   rw[hok] at cx;clear h hE ht hok e0;go_enter func66,ntmps66;go_wp2_with fail;refine(cn _ H.out).out.mono ?_;rintro e x1 ⟨rfl,f1⟩;go_wp2_with fail;refine(cx _ (H.out.fr f1)).out.mono ?_;rintro e x2 ⟨rfl,h2,f2⟩;go_wp2_with fail;go_ret;exact qq273
theorem Ac{x:World}{B:Nat}{T:TypeId}{a0 a1 a2 a3 a4 a5 a6 a7:Value}(h:x.heap[B]?=some (.cells #[a0,a1,a2,a3,a4,a5,a6,a7] T (0,0))):(x.cell? ⟨B,0,none⟩=some a0∧x.cell? ⟨B,1,none⟩=some a1∧x.cell? ⟨B,2,none⟩=some a2∧x.cell? ⟨B,3,none⟩=some a3∧x.cell? ⟨B,4,none⟩=some a4∧x.cell? ⟨B,5,none⟩=some a5∧x.cell? ⟨B,6,none⟩=some a6∧x.cell? ⟨B,7,none⟩=some a7)∧x.frozen? ⟨B,0,none⟩=false∧x.frozen? ⟨B,1,none⟩=false∧x.frozen? ⟨B,2,none⟩=false∧x.frozen? ⟨B,3,none⟩=false∧x.frozen? ⟨B,4,none⟩=false∧x.frozen? ⟨B,5,none⟩=false∧x.frozen? ⟨B,6,none⟩=false∧x.frozen? ⟨B,7,none⟩=false :=
 ⟨⟨Ab h 0,Ab h 1,Ab h 2,Ab h 3,Ab h 4,Ab h 5,Ab h 6,Ab h 7⟩,Ap h 0,Ap h 1,Ap h 2,Ap h 3,Ap h 4,Ap h 5,Ap h 6,Ap h 7⟩
def st8(x:World)(B:Nat)(a0 a1 a2 a3 a4 a5 a6 a7:Value):World:=(((((((x.setCell ⟨B,0,none⟩ a0).setCell ⟨B,1,none⟩ a1).setCell ⟨B,2,none⟩ a2).setCell ⟨B,3,none⟩ a3).setCell ⟨B,4,none⟩ a4).setCell ⟨B,5,none⟩ a5).setCell ⟨B,6,none⟩ a6).setCell ⟨B,7,none⟩ a7
theorem Aq{x:World}{B:Nat}{T:TypeId}{o0 o1 o2 o3 o4 o5 o6 o7:Value}(h:x.heap[B]?=some (.cells #[o0,o1,o2,o3,o4,o5,o6,o7] T (0,0)))(a0 a1 a2 a3 a4 a5 a6 a7:Value):(st8 x B a0 a1 a2 a3 a4 a5 a6 a7).heap[B]?=some (.cells #[a0,a1,a2,a3,a4,a5,a6,a7] T (0,0)):=by
 simp[st8,World.setCell,Array.getElem?_modify,h]
theorem Aj(x:World)(B:Nat)(a0 a1 a2 a3 a4 a5 a6 a7:Value):Fr [B] x (st8 x B a0 a1 a2 a3 a4 a5 a6 a7):=by
 unfold st8;exact((((((((Fr.refl [B] x).setCell (p:=⟨B,0,none⟩) (.inl sM) a0).setCell (p:=⟨B,1,none⟩) (.inl sM) a1).setCell (p:=⟨B,2,none⟩) (.inl sM) a2).setCell (p:=⟨B,3,none⟩) (.inl sM) a3).setCell (p:=⟨B,4,none⟩) (.inl sM) a4).setCell (p:=⟨B,5,none⟩) (.inl sM) a5).setCell (p:=⟨B,6,none⟩) (.inl sM) a6).setCell (p:=⟨B,7,none⟩) (.inl sM) a7
theorem E0(x:World)(B:Nat)(a0 a1 a2 a3 a4 a5 a6 a7:Value):(st8 x B a0 a1 a2 a3 a4 a5 a6 a7).heap.size=x.heap.size:=by simp[st8,World.setCell]
theorem Ao{x:World}{B:Nat}{T:TypeId}{a0 a1 a2 a3 a4 a5 a6:Value}(h:x.heap[B]?=some (.cells #[a0,a1,a2,a3,a4,a5,a6] T (0,0))):(x.cell? ⟨B,0,none⟩=some a0∧x.cell? ⟨B,1,none⟩=some a1∧x.cell? ⟨B,2,none⟩=some a2∧x.cell? ⟨B,3,none⟩=some a3∧x.cell? ⟨B,4,none⟩=some a4∧x.cell? ⟨B,5,none⟩=some a5∧x.cell? ⟨B,6,none⟩=some a6)∧x.frozen? ⟨B,0,none⟩=false∧x.frozen? ⟨B,1,none⟩=false∧x.frozen? ⟨B,2,none⟩=false∧x.frozen? ⟨B,3,none⟩=false∧x.frozen? ⟨B,4,none⟩=false∧x.frozen? ⟨B,5,none⟩=false∧x.frozen? ⟨B,6,none⟩=false :=
 ⟨⟨Ab h 0,Ab h 1,Ab h 2,Ab h 3,Ab h 4,Ab h 5,Ab h 6⟩,Ap h 0,Ap h 1,Ap h 2,Ap h 3,Ap h 4,Ap h 5,Ap h 6⟩
def st7(x:World)(B:Nat)(a0 a1 a2 a3 a4 a5 a6:Value):World:=((((((x.setCell ⟨B,0,none⟩ a0).setCell ⟨B,1,none⟩ a1).setCell ⟨B,2,none⟩ a2).setCell ⟨B,3,none⟩ a3).setCell ⟨B,4,none⟩ a4).setCell ⟨B,5,none⟩ a5).setCell ⟨B,6,none⟩ a6
theorem Dm{x:World}{B:Nat}{T:TypeId}{o0 o1 o2 o3 o4 o5 o6:Value}(h:x.heap[B]?=some (.cells #[o0,o1,o2,o3,o4,o5,o6] T (0,0)))(a0 a1 a2 a3 a4 a5 a6:Value):(st7 x B a0 a1 a2 a3 a4 a5 a6).heap[B]?=some (.cells #[a0,a1,a2,a3,a4,a5,a6] T (0,0)):=by
 simp[st7,World.setCell,Array.getElem?_modify,h]
theorem Ce(x:World)(B:Nat)(a0 a1 a2 a3 a4 a5 a6:Value):Fr [B] x (st7 x B a0 a1 a2 a3 a4 a5 a6):=by
 unfold st7;exact(((((((Fr.refl [B] x).setCell (p:=⟨B,0,none⟩) (.inl sM) a0).setCell (p:=⟨B,1,none⟩) (.inl sM) a1).setCell (p:=⟨B,2,none⟩) (.inl sM) a2).setCell (p:=⟨B,3,none⟩) (.inl sM) a3).setCell (p:=⟨B,4,none⟩) (.inl sM) a4).setCell (p:=⟨B,5,none⟩) (.inl sM) a5).setCell (p:=⟨B,6,none⟩) (.inl sM) a6
theorem st7_size(x:World)(B:Nat)(a0 a1 a2 a3 a4 a5 a6:Value):(st7 x B a0 a1 a2 a3 a4 a5 a6).heap.size=x.heap.size:=by simp[st7,World.setCell]
theorem Sh.of_fr{w w':World}{L:List Nat}{ok ok':Nat→Prop}(hf:Fr L w w')(h:∀ b,ok b→b<w.heap.size→ok' b∧b ∉ L):Sh w w' ok ok' :=
 fun b hb hlt=>⟨(h b hb hlt).1,hf.block b hlt (h b hb hlt).2,Nl' hlt hf.size⟩
theorem PSt.frL{P g c:Nat}{ts:List Tok}{st:St}{w w':World}{L:List Nat}(h:PSt P g c ts st w)(hf:Fr L w w')(hP:P ∉ L)(hg:g ∉ L):PSt P g c ts st w' :=
 ⟨hf.keep h.blk hP,h.rt.frL hf h.lt hg,Nl' h.lt hf.size,h.ne,h.inb⟩
def Kw(P g c:Nat)(ts:List Tok)(st:St)(cmd:Cmd)(w:World)(e:Ending)(w':World):Prop :=
 ∃ (k a:Int) (nm:LB) (n:Int) (s:LB) (ls:List LB) (args:List Ad) (arms:List (Al×Ad)) (A5:Option Addr) (n5 c5:Nat) (A6:Option Addr) (n6 c6:Nat) (A7:Option Addr) (n7 c7:Nat) (st':St),
  e = .returned (.agg #[vI k,vI a,vS nm,vI n,vS s,.slice A5 n5 c5,.slice A6 n6 c6,.slice A7 n7 c7])∧Ak w' (fun b=>w.heap.size≤b) (.mk k a nm n s ls args arms) [vI k,vI a,vS nm,vI n,vS s,.slice A5 n5 c5,.slice A6 n6 c6,.slice A7 n7 c7] ∧
  Run ts cmd st (.e (.mk k a nm n s ls args arms)) st'∧PSt P g c ts st' w'∧Fr [P] w w'
def Tc(P g c:Nat)(ts:List Tok)(st:St)(cmd:Cmd)(w:World)(e:Ending)(w':World):Prop :=
 ∃ (k a:Int) (nm:LB) (n:Int) (s:LB) (ls:List LB) (args:List Al) (A5:Option Addr) (n5 c5:Nat) (A6:Option Addr) (n6 c6:Nat) (st':St),
  e = .returned (.agg #[vI k,vI a,vS nm,vI n,vS s,.slice A5 n5 c5,.slice A6 n6 c6])∧Bw w' (fun b=>w.heap.size≤b) (.mk k a nm n s ls args) [vI k,vI a,vS nm,vI n,vS s,.slice A5 n5 c5,.slice A6 n6 c6] ∧
  Run ts cmd st (.p (.mk k a nm n s ls args)) st'∧PSt P g c ts st' w'∧Fr [P] w w'
def GE(ts:List Tok)(N lv:Nat)(nt:NT)(fid:FuncId):Prop:=∀ (P g c:Nat)(st:St)(w:World),PSt P g c ts st w→16 *(ts.length-st.i)+lv<N→Calls prog fid #[.pointer (some ⟨P,0,none⟩)] w (Kw P g c ts st (body nt) w)
def GP(ts:List Tok)(N lv:Nat)(nt:PNT)(fid:FuncId):Prop:=∀ (P g c:Nat)(st:St)(w:World),PSt P g c ts st w→16 *(ts.length-st.i)+lv<N→Calls prog fid #[.pointer (some ⟨P,0,none⟩)] w (Tc P g c ts st (Dd nt) w)
theorem Run.els{ts:List Tok}{c d:Cmd}{st:St}{r:Rs}{st':St}(h:Run ts d st r st'):Run ts (if false=true then c else d) st r st':=h
theorem Run.thn{ts:List Tok}{c d:Cmd}{st:St}{r:Rs}{st':St}(h:Run ts c st r st'):Run ts (if true=true then c else d) st r st':=h
theorem Bn{ts:List Tok}{i:Nat}(h:i<ts.length):∃ t,ts[i]?=some t:=⟨ts[i],Lg' h⟩
theorem Run.le{ts:List Tok}{c:Cmd}{st:St}{r:Rs}{st':St}(h:Run ts c st r st'):st.i≤st'.i:=h.grows.1
structure Hi (ts:List Tok)(N:Nat):Prop where
 fn:GE ts N 14 .fn 68
 seq:GE ts N 13 .seq 15
 item:GE ts N 12 .item 30
 or:GE ts N 11 .or 72
 and:GE ts N 10 .and 110
 cmp:GE ts N 9 .cmp 141
 sum:GE ts N 8 .sum 161
 prod:GE ts N 7 .prod 178
 unary:GE ts N 6 .unary 187
 app:GE ts N 5 .app 190
 post:GE ts N 4 .post 71
 atom:GE ts N 3 .atom 109
section
attribute [local go_sem ↓] Go.wp_at_zero Go.wp_at_succ
structure CS (pn pm:Nat)(most σ:Int)(w:World):Prop where
 n:w.heap[pn]?=some (.cells #[vI σ] 3 (0,0))
 m:w.heap[pm]?=some (.cells #[vI most] 3 (0,0))
 lo:0≤σ
 hi:most≤1099511627776
 ne:pn≠pm
theorem CS.fr{pn pm:Nat}{most σ:Int}{w w':World}(h:CS pn pm most σ w)(hf:Fr [] w w'):CS pn pm most σ w' :=
 ⟨hf.keep h.n (fun x=>by cases x),hf.keep h.m (fun x=>by cases x),h.lo,h.hi,h.ne⟩
structure DS (pm pa pf:Nat)(most:Int)(σ:Int×Bool)(w:World):Prop where
 m:w.heap[pm]?=some (.cells #[vI most] 3 (0,0))
 a:w.heap[pa]?=some (.cells #[vI σ.1] 3 (0,0))
 f:w.heap[pf]?=some (.cells #[.bool σ.2] 4 (0,0))
 n1:pa≠pm
 n2:pf≠pm
 n3:pa≠pf
theorem DS.fr{pm pa pf:Nat}{most:Int}{σ:Int×Bool}{w w':World}(h:DS pm pa pf most σ w)(hf:Fr [] w w'):DS pm pa pf most σ w' :=
 ⟨hf.keep h.m (fun x=>by cases x),hf.keep h.a (fun x=>by cases x),hf.keep h.f (fun x=>by cases x),h.n1,h.n2,h.n3⟩
theorem eachC(pn pm:Nat)(most σ a D:Int)(d:Nat)(_hD:D=d)(w:World)(h:CS pn pm most σ w)(hs:σ≤most):
  Calls prog 33 #[vI a,vI D,.pointer (some ⟨pn,0,none⟩),.pointer (some ⟨pm,0,none⟩)] w fun e w'=>e = .returned (.bool (Du most σ (a,d)).2)∧CS pn pm most (Du most σ (a,d)).1 w'∧Fr [pn] w w':=by
 have hn:=Aa h.n;have hm:=Aa h.m;have c0:w.cell? ⟨pn,0,none⟩=some (vI σ):=Ab h.n 0;have z0:w.frozen? ⟨pn,0,none⟩=false:=Ap h.n 0;have c1:w.cell? ⟨pm,0,none⟩=some (vI most):=Ab h.m 0;have ne:=h.ne;have ne':=Ne.symm h.ne;have lo:=h.lo;have hi:=h.hi;have H:=Hz h;clear h _hD;show Calls _ _ _ _ fun e w'=>e = .returned (.bool (decide (σ+1≤most)))∧CS pn pm most (σ+1) w'∧Fr [pn] w w'
 have fs:=(Fr.refl [pn] w).setCell (p:=⟨pn,0,none⟩) (.inl sM) (vI (σ+1));have HC:Hid (CS pn pm most (σ+1) (w.setCell ⟨pn,0,none⟩ (vI (σ+1)))):=Hz ⟨Cl H.out.n 0 _,fs.keep H.out.m (by simpa using Ne.symm H.out.ne),oM,hi,H.out.ne⟩;have HF:=Hz fs;clear fs;have wq:IntKind.i64.wrap (σ+1)=σ+1:=IntWalk.i64_in _ oM;go_enter func33,ntmps33;go_wp2_with fail;go_ret;exact⟨rfl,HC.out,HF.out⟩
theorem eachD(pm pa pf:Nat)(most:Int)(σ:Int×Bool)(a D:Int)(d:Nat)(hD:D=d)(w:World)(h:DS pm pa pf most σ w)(hs:σ.2=false):
  Calls prog 34 #[vI a,vI D,.pointer (some ⟨pm,0,none⟩),.pointer (some ⟨pa,0,none⟩),.pointer (some ⟨pf,0,none⟩)] w fun e w'=>e = .returned (.bool (Cb most σ (a,d)).2)∧DS pm pa pf most (Cb most σ (a,d)).1 w'∧Fr [pa,pf] w w':=by
 obtain⟨σa,σf⟩:=σ;simp only at hs;subst hs;have hm:=Aa h.m;have ha:=Aa h.a;have hf:=Aa h.f;have c0:w.cell? ⟨pm,0,none⟩=some (vI most):=Ab h.m 0;have c1:w.cell? ⟨pa,0,none⟩=some (vI σa):=Ab h.a 0;have c2:w.cell? ⟨pf,0,none⟩=some (.bool false):=Ab h.f 0;have z1:w.frozen? ⟨pa,0,none⟩=false:=Ap h.a 0;have z2:w.frozen? ⟨pf,0,none⟩=false:=Ap h.f 0;have n1:=h.n1;have n1':=Ne.symm h.n1;have n2:=h.n2;have n2':=Ne.symm h.n2;have n3:=h.n3;have n3':=Ne.symm h.n3;have H:=Hz h;clear h;by_cases hd:most<D
 ·have e:Cb most (σa,false) (a,d)=((a,true),false):=by unfold Cb;rw[if_pos (by simpa [← hD] using hd)]
  rw[e];clear e hD;have fs:=((Fr.refl [pa,pf] w).setCell (p:=⟨pa,0,none⟩) (.inl sM) (vI a)).setCell (p:=⟨pf,0,none⟩) (.inl sM) (.bool true);have HC:Hid (DS pm pa pf most (a,true) ((w.setCell ⟨pa,0,none⟩ (vI a)).setCell ⟨pf,0,none⟩ (.bool true))):=Hz ⟨fs.keep H.out.m (by simp[n1',n2']),((Fr.refl [pf] _).setCell (p:=⟨pf,0,none⟩) (.inl sM) (.bool true)).keep (Cl H.out.a 0 (vI a)) (by simp[n3]),Cl (((Fr.refl [pa] w).setCell (p:=⟨pa,0,none⟩) (.inl sM) (vI a)).keep H.out.f (by simp[n3'])) 0 (.bool true),H.out.n1,H.out.n2,H.out.n3⟩;have HF:=Hz fs;clear fs;go_enter func34,ntmps34;go_wp2_with fail;go_ret;exact⟨rfl,HC.out,HF.out⟩
 ·have e:Cb most (σa,false) (a,d)=((σa,false),true):=by unfold Cb;rw[if_neg (by simpa [← hD] using hd)];rfl
  rw[e];clear e hD;go_enter func34,ntmps34;go_wp2_with fail;go_ret;exact⟨rfl,H.out,Fr.refl _ _⟩
def PTC(pn pm:Nat)(most:Int)(lo N:Nat):Prop:=∀ (k a:Int)(nm:LB)(n:Int)(s:LB)(ls:List LB)(args:List Al)(v5 v6:Value)(d:Nat)(D:Int)(w:World)(σ:Int),szP (.mk k a nm n s ls args)<N→D=d→d+szP (.mk k a nm n s ls args)≤1099511627776→lo≤w.heap.size →
  Bw w (fun b=>b<lo) (.mk k a nm n s ls args) [vI k,vI a,vS nm,vI n,vS s,v5,v6]→CS pn pm most σ w→σ≤most →
  Calls prog 75 #[.agg #[vI k,vI a,vS nm,vI n,vS s,v5,v6],vI D,.func (.func 33) #[] #[.pointer (some ⟨pn,0,none⟩),.pointer (some ⟨pm,0,none⟩)]] w fun e w'=>e = .returned (.bool (goL (Du most) σ (Cn (.mk k a nm n s ls args) d)).2)∧CS pn pm most (goL (Du most) σ (Cn (.mk k a nm n s ls args) d)).1 w'∧Fr [pn] w w'
theorem nn134(h:p:=by
 have f3:=(fb.mono (L':=[pn]) (fun x hx=>by cases hx)).trans f3;have f4:=f.trans f3
 cases hb2:(goL (Du most) τ (Cn (.mk k2 a2 nm2 n2 s2 ls2 args2) (d+1))).2 with
 | false =>
  go_wp2_with fail;go_ret;have e:R=((goL (Du most) τ (Cn (.mk k2 a2 nm2 n2 s2 ls2 args2) (d+1))).1,false):=by rw[HG.out,Jt HY.out,Fm,if_neg (by rw[hb2];decide)]
  exact qq290
 | true =>
  have HG2:Hid (R=goL (Du most) (goL (Du most) τ (Cn (.mk k2 a2 nm2 n2 s2 ls2 args2) (d+1))).1 (Dx (args.drop (i+1)) (d+1))):=Hz (by rw[HG.out,Jt HY.out,Fm,if_pos hb2]);have hok3:Hid ((goL (Du most) τ (Cn (.mk k2 a2 nm2 n2 s2 ls2 args2) (d+1))).1≤most):=Hz (U5 hok.out hb2);exact qq220):p:=h
theorem nn314(h:p:=by
 have hpn:=Aa hs.n;have kqq327:=@Hz _ @nn613;exact qq327):p:=h
theorem nn473(h:p:=by
 refine(eachC pn pm most σ a D d HD.out w1 (HS.out.fr f0) HOK.out).mono ?_;rintro e w2 ⟨rfl,hs2,f2⟩;have hl0:=Aa hs2.n;have q0:=f2.keep q0 sO;have f2:=(f0.mono (L':=[pn]) (fun x hx=>by cases hx)).trans f2
 cases hb1:((Du most) σ (a,d)).2 with
 | false =>
  exact qq210
 | true =>
  have HG:Hid (R=goL (Du most) ((Du most) σ (a,d)).1 (Dx (args.drop 0) (d+1))):=Hz (by rw[← HR.out,if_pos hb1];rfl);have hok2:Hid (((Du most) σ (a,d)).1≤most):=Hz (by have:=hb1;simp[Du] at this ⊢;exact this);clear hb1 HR;have hTx:=Aa q0;obtain⟨⟨l0,l1,l2,l3,l4,l5,l6⟩,_⟩:=Ao q0;go_wp2_with fail;clear l0 l1 l2 l3 l4 l5 l6
  go_loopw [18] (fun iv wr=>∃ (i:Nat) (τ:Int),iv=vI i∧i≤args.length∧CS pn pm most τ wr∧Hid (τ≤most)∧Fr [pn] w wr∧Hid (R=goL (Du most) τ (Dx (args.drop i) (d+1)))) (fun iv wr=>args.length-(intOf iv).toNat)
  case atStart=>exact⟨0,_,rfl,oM,hs2,hok2,f2,HG⟩
  case round =>
   obtain⟨i,τ,rfl,hi,hs,hok,f,HG⟩:=hrel;clear hok2 hs2 f2 q0 hTx hl0;by_cases hlt:i<args.length
   ·have kqq297:=@Hz _ @nn554;exact qq297
   ·exact qq194):p:=h
theorem nn554(h:p:=by
 rcases H6.out with⟨_,_,_,hl⟩| ⟨g,og,c',hv,hg,hgs,_,hcs⟩
 ·omega
 ·have kqq41:=@Hz _ @nn134;exact qq41):p:=h
theorem nn613(h:p:=by
 generalize hR:(if ((Du most) σ (a,d)).2=true then goL (Du most) ((Du most) σ (a,d)).1 (Dx args (d+1))else (((Du most) σ (a,d)).1,false))=R;have kqq242:=@Hz _ @nn473;exact qq242):p:=h
theorem patsC_step(pn pm:Nat)(most:Int)(lo:Nat)(hl:lo≤pn)(N:Nat)(ih:PTC pn pm most lo N):PTC pn pm most lo (N+1):=by
 have kqq118:=@Hz _ @nn314;exact qq118
theorem Ue(pn pm:Nat)(most:Int)(lo:Nat)(hl:lo≤pn):∀ N,PTC pn pm most lo N
 | 0=>fun _ _ _ _ _ _ _ _ _ _ _ _ _ h=>absurd h (Nat.not_lt_zero _)
 | N+1=>patsC_step pn pm most lo hl N (Ue pn pm most lo hl N)
def WTC(pn pm:Nat)(most:Int)(lo N:Nat):Prop:=∀ (k a:Int)(nm:LB)(n:Int)(s:LB)(ls:List LB)(args:List Ad)(arms:List (Al×Ad))(v5 v6 v7:Value)(d:Nat)(D:Int)(w:World)(σ:Int),szE (.mk k a nm n s ls args arms)<N→D=d→d+szE (.mk k a nm n s ls args arms)≤1099511627776→lo≤w.heap.size →
  Ak w (fun b=>b<lo) (.mk k a nm n s ls args arms) [vI k,vI a,vS nm,vI n,vS s,v5,v6,v7]→CS pn pm most σ w→σ≤most →
  Calls prog 32 #[.agg #[vI k,vI a,vS nm,vI n,vS s,v5,v6,v7],vI D,.func (.func 33) #[] #[.pointer (some ⟨pn,0,none⟩),.pointer (some ⟨pm,0,none⟩)]] w fun e w'=>e = .returned (.bool (goL (Du most) σ (Cm (.mk k a nm n s ls args arms) d)).2)∧CS pn pm most (goL (Du most) σ (Cm (.mk k a nm n s ls args arms) d)).1 w'∧Fr [pn] w w'
theorem nn90(h:p:=by
 have cP:=fun W (hW:Fr [] wr W)=>Hz (Ue pn pm most lo hl (szP (.mk k3 a3 nm3 n3 s3 ls3 args3)+1) k3 a3 nm3 n3 s3 ls3 args3 (.slice A53 m53 cc53) (.slice A63 m63 cc63) (d+1) (D+1) W τ' oM (by rw[HD.out];simp) oM (by have:=f.size;have:=hW.size;omega) (hpw.keep (Sh.of_fr hW (fun b hb hlt=>⟨hb,fun x=>by cases x⟩))) (hs.fr hW) hok.out)
 have cE:=fun W (hW:Fr [pn] wr W) τ2 (hs2:CS pn pm most τ2 W) (hok2:τ2≤most)=>Hz (IH.out k2 a2 nm2 n2 s2 ls2 args2 arms2 (.slice A52 m52 cc52) (.slice A62 m62 cc62) (.slice A72 m72 cc72) (d+1) (D+1) W τ2 (by have:=HN.out;omega) (by rw[HD.out];simp) oM (by have:=f.size;have:=hW.size;omega) (hyw.keep (Sh.of_fr hW (fun b hb hlt=>⟨hb,by simp;omega⟩))) hs2 hok2)
 have kqq86:=@Hz _ @nn243;exact qq86):p:=h
theorem nn92(h:p:=by
 have f3:=(fb.mono (L':=[pn]) (fun x hx=>by cases hx)).trans f3;have f4:=f.trans f3
 cases hb2:(goL (Du most) τ (Cm (.mk k2 a2 nm2 n2 s2 ls2 args2 arms2) (d+1))).2 with
 | false =>
  go_wp2_with fail;go_ret;have e:R=((goL (Du most) τ (Cm (.mk k2 a2 nm2 n2 s2 ls2 args2 arms2) (d+1))).1,false):=by rw[HG.out,Js HY.out,Ls',Fm,if_neg (by rw[hb2];decide)]
  exact qq290
 | true =>
  have HG2:Hid (R=goL (Du most) (goL (Du most) τ (Cm (.mk k2 a2 nm2 n2 s2 ls2 args2 arms2) (d+1))).1 (Dw (args.drop (i+1)) (d+1)++Cu arms (d+1))):=Hz (by rw[HG.out,Js HY.out,Ls',Fm,if_pos hb2]);have hok3:Hid ((goL (Du most) τ (Cm (.mk k2 a2 nm2 n2 s2 ls2 args2 arms2) (d+1))).1≤most):=Hz (U5 hok.out hb2);exact qq202):p:=h
theorem nn173(h:p:=by
 cases hb2:(goL (Du most) τ' (Cn (.mk k3 a3 nm3 n3 s3 ls3 args3) (d+1))).2 with
 | false =>
  go_wp2_with fail;go_ret;have e:R=((goL (Du most) τ' (Cn (.mk k3 a3 nm3 n3 s3 ls3 args3) (d+1))).1,false):=by rw[HG.out,Jr HY.out,Fm,if_neg (by rw[hb2];decide)]
  exact qq290
 | true =>
  have hok3:Hid ((goL (Du most) τ' (Cn (.mk k3 a3 nm3 n3 s3 ls3 args3) (d+1))).1≤most):=Hz (U5 hok.out hb2);have HG2:Hid (R=goL (Du most) (goL (Du most) τ' (Cn (.mk k3 a3 nm3 n3 s3 ls3 args3) (d+1))).1 (Cm (.mk k2 a2 nm2 n2 s2 ls2 args2 arms2) (d+1)++Cu (arms.drop (i+1)) (d+1))):=Hz (by rw[HG.out,Jr HY.out,Fm,if_pos hb2]);clear hb2;go_wp2_with fail;refine(cE _ f3 _ hs3 hok3.out).out.mono ?_;rintro e w4 ⟨rfl,hs4,f5⟩;clear m0 m1 m2 m3 m4 m5 m6 m7 m8 m9 m10 m11 m12 m13 m14 cE hDQ;have f6:=f4.trans f5
  cases hb3:(goL (Du most) (goL (Du most) τ' (Cn (.mk k3 a3 nm3 n3 s3 ls3 args3) (d+1))).1 (Cm (.mk k2 a2 nm2 n2 s2 ls2 args2 arms2) (d+1))).2 with
  | false =>
   go_wp2_with fail;go_ret;have e:R=((goL (Du most) (goL (Du most) τ' (Cn (.mk k3 a3 nm3 n3 s3 ls3 args3) (d+1))).1 (Cm (.mk k2 a2 nm2 n2 s2 ls2 args2 arms2) (d+1))).1,false):=by rw[HG2.out,Fm,if_neg (by rw[hb3];decide)]
   rw[e]
   exact⟨rfl,hs4,f6⟩
  | true =>
   have hok4:Hid ((goL (Du most) (goL (Du most) τ' (Cn (.mk k3 a3 nm3 n3 s3 ls3 args3) (d+1))).1 (Cm (.mk k2 a2 nm2 n2 s2 ls2 args2 arms2) (d+1))).1≤most):=Hz (U5 hok3.out hb3);have HG3:Hid (R=goL (Du most) (goL (Du most) (goL (Du most) τ' (Cn (.mk k3 a3 nm3 n3 s3 ls3 args3) (d+1))).1 (Cm (.mk k2 a2 nm2 n2 s2 ls2 args2 arms2) (d+1))).1 (Cu (arms.drop (i+1)) (d+1))):=Hz (by rw[HG2.out,Fm,if_pos hb3]);exact qq214):p:=h
theorem nn194(h:p:=by
 have hpn:=Aa hs.n;have kqq243:=@Hz _ @nn475;exact qq243):p:=h
theorem nn243(h:p:=by
 have f3:=(fb.mono (L':=[pn]) (fun x hx=>by cases hx)).trans f3;have kqq64:=@Hz _ @nn173;exact qq64):p:=h
theorem nn325(h:p:=by
 refine(eachC pn pm most σ a D d HD.out w1 (HS.out.fr f0) HOK.out).mono ?_;rintro e w2 ⟨rfl,hs2,f2⟩;have q0:=f2.keep q0 sO;have f2:=(f0.mono (L':=[pn]) (fun x hx=>by cases hx)).trans f2
 cases hb1:((Du most) σ (a,d)).2 with
 | false =>
  exact qq210
 | true =>
  have HG:Hid (R=goL (Du most) ((Du most) σ (a,d)).1 (Dw (args.drop 0) (d+1)++Cu arms (d+1))):=Hz (by rw[← HR.out,if_pos hb1];rfl);have hok2:Hid (((Du most) σ (a,d)).1≤most):=Hz (by have:=hb1;simp[Du] at this ⊢;exact this);clear hb1 HR;have hTx:=Aa q0;obtain⟨⟨l0,l1,l2,l3,l4,l5,l6,l7⟩,_⟩:=Ac q0;go_wp2_with fail;clear l0 l1 l2 l3 l4 l5 l6 l7
  go_loopw [20] (fun iv wr=>∃ (i:Nat) (τ:Int),iv=vI i∧i≤args.length∧CS pn pm most τ wr∧Hid (τ≤most)∧Fr [pn] w wr∧wr.heap[T]?=some (.cells #[vI k,vI a,vS nm,vI n,vS s,v5,.slice A6 args.length cc6,.slice A7 arms.length cc7] 27 (0,0))∧Hid (R=goL (Du most) τ (Dw (args.drop i) (d+1)++Cu arms (d+1)))) (fun iv wr=>args.length-(intOf iv).toNat)
  case atStart=>exact⟨0,_,rfl,oM,hs2,hok2,f2,q0,HG⟩
  case round =>
   obtain⟨i,τ,rfl,hi,hs,hok,f,q0',HG⟩:=hrel;clear hok2 hs2 f2 q0 hTx;have q0:=q0';clear q0';have hTw:=Aa q0;by_cases hlt:i<args.length
   ·have kqq297:=@Hz _ @nn553;exact qq297
   ·have ei:i=args.length:=by omega
    subst ei;obtain⟨⟨l0,l1,l2,l3,l4,l5,l6,l7⟩,_⟩:=Ac q0;have HG2:Hid (R=goL (Du most) τ (Cu (arms.drop 0) (d+1))):=Hz (by rw[HG.out,List.drop_length];simp[Dw]);clear HG q0;go_wp2_with fail;clear l0 l1 l2 l3 l4 l5 l6 l7
    go_loopw [34] (fun iv wr=>∃ (i:Nat) (τ:Int),iv=vI i∧i≤arms.length∧CS pn pm most τ wr∧Hid (τ≤most)∧Fr [pn] w wr∧Hid (R=goL (Du most) τ (Cu (arms.drop i) (d+1)))) (fun iv wr=>arms.length-(intOf iv).toNat)
    case atStart=>exact⟨0,_,rfl,oM,hs,hok,f,HG2⟩
    case round =>
     clear HG2 hs hok hTw f;obtain⟨i,τ',rfl,hi',hs,hok,f,HG⟩:=hrel;by_cases hlt:i<arms.length
     ·obtain⟨p,y,hy⟩:∃ p y,arms[i]?=some (p,y):=⟨(arms[i]).1,(arms[i]).2,Lg' hlt⟩
      have HY:=Hz hy;clear hy;have hpx:=E7.out i p y HY.out;have hyx:=E8.out i p y HY.out
      rcases H7.out with⟨_,_,_,hl⟩| ⟨g,og,c',hv,hg,hgs,_,hcs⟩
      ·omega
      ·have kqq26:=@Hz _ @nn90;exact qq26
     ·exact qq193):p:=h
theorem nn475(h:p:=by
 generalize hR:(if ((Du most) σ (a,d)).2=true then goL (Du most) ((Du most) σ (a,d)).1 (Dw args (d+1)++Cu arms (d+1))else (((Du most) σ (a,d)).1,false))=R;have kqq122:=@Hz _ @nn325;exact qq122):p:=h
theorem nn553(h:p:=by
 rcases H6.out with⟨_,_,_,hl⟩| ⟨g,og,c',hv,hg,hgs,_,hcs⟩
 ·omega
 ·have kqq28:=@Hz _ @nn92;exact qq28):p:=h
theorem walkC_step(pn pm:Nat)(most:Int)(lo:Nat)(hl:lo≤pn)(N:Nat)(ih:WTC pn pm most lo N):WTC pn pm most lo (N+1):=by
 have kqq69:=@Hz _ @nn194;exact qq69
theorem Ut(pn pm:Nat)(most:Int)(lo:Nat)(hl:lo≤pn):∀ N,WTC pn pm most lo N
 | 0=>fun _ _ _ _ _ _ _ _ _ _ _ _ _ _ _ h=>absurd h (Nat.not_lt_zero _)
 | N+1=>walkC_step pn pm most lo hl N (Ut pn pm most lo hl N)
def PTD(pm pa pf:Nat)(most:Int)(lo N:Nat):Prop:=∀ (k a:Int)(nm:LB)(n:Int)(s:LB)(ls:List LB)(args:List Al)(v5 v6:Value)(d:Nat)(D:Int)(w:World)(σ:(Int×Bool)),szP (.mk k a nm n s ls args)<N→D=d→d+szP (.mk k a nm n s ls args)≤1099511627776→lo≤w.heap.size →
  Bw w (fun b=>b<lo) (.mk k a nm n s ls args) [vI k,vI a,vS nm,vI n,vS s,v5,v6]→DS pm pa pf most σ w→σ.2=false →
  Calls prog 75 #[.agg #[vI k,vI a,vS nm,vI n,vS s,v5,v6],vI D,.func (.func 34) #[] #[.pointer (some ⟨pm,0,none⟩),.pointer (some ⟨pa,0,none⟩),.pointer (some ⟨pf,0,none⟩)]] w fun e w'=>e = .returned (.bool (goL (Cb most) σ (Cn (.mk k a nm n s ls args) d)).2)∧DS pm pa pf most (goL (Cb most) σ (Cn (.mk k a nm n s ls args) d)).1 w'∧Fr [pa,pf] w w'
theorem nn133(h:p:=by
 have f3:=(fb.mono (L':=[pa,pf]) (fun x hx=>by cases hx)).trans f3;have f4:=f.trans f3
 cases hb2:(goL (Cb most) τ (Cn (.mk k2 a2 nm2 n2 s2 ls2 args2) (d+1))).2 with
 | false =>
  go_wp2_with fail;go_ret;have e:R=((goL (Cb most) τ (Cn (.mk k2 a2 nm2 n2 s2 ls2 args2) (d+1))).1,false):=by rw[HG.out,Jt HY.out,Fm,if_neg (by rw[hb2];decide)]
  exact qq290
 | true =>
  have HG2:Hid (R=goL (Cb most) (goL (Cb most) τ (Cn (.mk k2 a2 nm2 n2 s2 ls2 args2) (d+1))).1 (Dx (args.drop (i+1)) (d+1))):=Hz (by rw[HG.out,Jt HY.out,Fm,if_pos hb2]);have hok3:Hid ((goL (Cb most) τ (Cn (.mk k2 a2 nm2 n2 s2 ls2 args2) (d+1))).1.2=false):=Hz (Qp hok.out hb2);exact qq220):p:=h
theorem nn313(h:p:=by
 have hpn:=Aa hs.a;have hpn2:=Aa hs.f;have kqq327:=@Hz _ @nn614;exact qq327):p:=h
theorem nn474(h:p:=by
 refine(eachD pm pa pf most σ a D d HD.out w1 (HS.out.fr f0) HOK.out).mono ?_;rintro e w2 ⟨rfl,hs2,f2⟩;have hl0:=Aa hs2.a;have q0:=f2.keep q0 sO;have f2:=(f0.mono (L':=[pa,pf]) (fun x hx=>by cases hx)).trans f2
 cases hb1:((Cb most) σ (a,d)).2 with
 | false =>
  exact qq211
 | true =>
  have HG:Hid (R=goL (Cb most) ((Cb most) σ (a,d)).1 (Dx (args.drop 0) (d+1))):=Hz (by rw[← HR.out,if_pos hb1];rfl);have hok2:Hid (((Cb most) σ (a,d)).1.2=false):=Hz (Ww HOK.out hb1);clear hb1 HR;have hTx:=Aa q0;obtain⟨⟨l0,l1,l2,l3,l4,l5,l6⟩,_⟩:=Ao q0;go_wp2_with fail;clear l0 l1 l2 l3 l4 l5 l6
  go_loopw [18] (fun iv wr=>∃ (i:Nat) (τ:(Int×Bool)),iv=vI i∧i≤args.length∧DS pm pa pf most τ wr∧Hid (τ.2=false)∧Fr [pa,pf] w wr∧Hid (R=goL (Cb most) τ (Dx (args.drop i) (d+1)))) (fun iv wr=>args.length-(intOf iv).toNat)
  case atStart=>exact⟨0,_,rfl,oM,hs2,hok2,f2,HG⟩
  case round =>
   obtain⟨i,τ,rfl,hi,hs,hok,f,HG⟩:=hrel;clear hok2 hs2 f2 q0 hTx hl0;by_cases hlt:i<args.length
   ·have kqq297:=@Hz _ @nn555;exact qq297
   ·exact qq194):p:=h
theorem nn555(h:p:=by
 rcases H6.out with⟨_,_,_,hl⟩| ⟨g,og,c',hv,hg,hgs,_,hcs⟩
 ·omega
 ·have kqq41:=@Hz _ @nn133;exact qq41):p:=h
theorem nn614(h:p:=by
 generalize hR:(if ((Cb most) σ (a,d)).2=true then goL (Cb most) ((Cb most) σ (a,d)).1 (Dx args (d+1))else (((Cb most) σ (a,d)).1,false))=R;have kqq242:=@Hz _ @nn474;exact qq242):p:=h
theorem patsD_step(pm pa pf:Nat)(most:Int)(lo:Nat)(hl:lo≤pa)(hl2:lo≤pf)(N:Nat)(ih:PTD pm pa pf most lo N):PTD pm pa pf most lo (N+1):=by
 have kqq118:=@Hz _ @nn313;exact qq118
theorem Uf(pm pa pf:Nat)(most:Int)(lo:Nat)(hl:lo≤pa)(hl2:lo≤pf):∀ N,PTD pm pa pf most lo N
 | 0=>fun _ _ _ _ _ _ _ _ _ _ _ _ _ h=>absurd h (Nat.not_lt_zero _)
 | N+1=>patsD_step pm pa pf most lo hl hl2 N (Uf pm pa pf most lo hl hl2 N)
def WTD(pm pa pf:Nat)(most:Int)(lo N:Nat):Prop:=∀ (k a:Int)(nm:LB)(n:Int)(s:LB)(ls:List LB)(args:List Ad)(arms:List (Al×Ad))(v5 v6 v7:Value)(d:Nat)(D:Int)(w:World)(σ:(Int×Bool)),szE (.mk k a nm n s ls args arms)<N→D=d→d+szE (.mk k a nm n s ls args arms)≤1099511627776→lo≤w.heap.size →
  Ak w (fun b=>b<lo) (.mk k a nm n s ls args arms) [vI k,vI a,vS nm,vI n,vS s,v5,v6,v7]→DS pm pa pf most σ w→σ.2=false →
  Calls prog 32 #[.agg #[vI k,vI a,vS nm,vI n,vS s,v5,v6,v7],vI D,.func (.func 34) #[] #[.pointer (some ⟨pm,0,none⟩),.pointer (some ⟨pa,0,none⟩),.pointer (some ⟨pf,0,none⟩)]] w fun e w'=>e = .returned (.bool (goL (Cb most) σ (Cm (.mk k a nm n s ls args arms) d)).2)∧DS pm pa pf most (goL (Cb most) σ (Cm (.mk k a nm n s ls args arms) d)).1 w'∧Fr [pa,pf] w w'
theorem nn89(h:p:=by
 have cP:=fun W (hW:Fr [] wr W)=>Hz (Uf pm pa pf most lo hl hl2 (szP (.mk k3 a3 nm3 n3 s3 ls3 args3)+1) k3 a3 nm3 n3 s3 ls3 args3 (.slice A53 m53 cc53) (.slice A63 m63 cc63) (d+1) (D+1) W τ' oM (by rw[HD.out];simp) oM (by have:=f.size;have:=hW.size;omega) (hpw.keep (Sh.of_fr hW (fun b hb hlt=>⟨hb,fun x=>by cases x⟩))) (hs.fr hW) hok.out)
 have cE:=fun W (hW:Fr [pa,pf] wr W) τ2 (hs2:DS pm pa pf most τ2 W) (hok2:τ2.2=false)=>Hz (IH.out k2 a2 nm2 n2 s2 ls2 args2 arms2 (.slice A52 m52 cc52) (.slice A62 m62 cc62) (.slice A72 m72 cc72) (d+1) (D+1) W τ2 (by have:=HN.out;omega) (by rw[HD.out];simp) oM (by have:=f.size;have:=hW.size;omega) (hyw.keep (Sh.of_fr hW (fun b hb hlt=>⟨hb,by simp;omega⟩))) hs2 hok2)
 have kqq86:=@Hz _ @nn244;exact qq86):p:=h
theorem nn91(h:p:=by
 have f3:=(fb.mono (L':=[pa,pf]) (fun x hx=>by cases hx)).trans f3;have f4:=f.trans f3
 cases hb2:(goL (Cb most) τ (Cm (.mk k2 a2 nm2 n2 s2 ls2 args2 arms2) (d+1))).2 with
 | false =>
  go_wp2_with fail;go_ret;have e:R=((goL (Cb most) τ (Cm (.mk k2 a2 nm2 n2 s2 ls2 args2 arms2) (d+1))).1,false):=by rw[HG.out,Js HY.out,Ls',Fm,if_neg (by rw[hb2];decide)]
  exact qq290
 | true =>
  have HG2:Hid (R=goL (Cb most) (goL (Cb most) τ (Cm (.mk k2 a2 nm2 n2 s2 ls2 args2 arms2) (d+1))).1 (Dw (args.drop (i+1)) (d+1)++Cu arms (d+1))):=Hz (by rw[HG.out,Js HY.out,Ls',Fm,if_pos hb2]);have hok3:Hid ((goL (Cb most) τ (Cm (.mk k2 a2 nm2 n2 s2 ls2 args2 arms2) (d+1))).1.2=false):=Hz (Qp hok.out hb2);exact qq202):p:=h
theorem nn174(h:p:=by
 cases hb2:(goL (Cb most) τ' (Cn (.mk k3 a3 nm3 n3 s3 ls3 args3) (d+1))).2 with
 | false =>
  go_wp2_with fail;go_ret;have e:R=((goL (Cb most) τ' (Cn (.mk k3 a3 nm3 n3 s3 ls3 args3) (d+1))).1,false):=by rw[HG.out,Jr HY.out,Fm,if_neg (by rw[hb2];decide)]
  exact qq290
 | true =>
  have hok3:Hid ((goL (Cb most) τ' (Cn (.mk k3 a3 nm3 n3 s3 ls3 args3) (d+1))).1.2=false):=Hz (Qp hok.out hb2);have HG2:Hid (R=goL (Cb most) (goL (Cb most) τ' (Cn (.mk k3 a3 nm3 n3 s3 ls3 args3) (d+1))).1 (Cm (.mk k2 a2 nm2 n2 s2 ls2 args2 arms2) (d+1)++Cu (arms.drop (i+1)) (d+1))):=Hz (by rw[HG.out,Jr HY.out,Fm,if_pos hb2]);clear hb2;go_wp2_with fail;refine(cE _ f3 _ hs3 hok3.out).out.mono ?_;rintro e w4 ⟨rfl,hs4,f5⟩;clear m0 m1 m2 m3 m4 m5 m6 m7 m8 m9 m10 m11 m12 m13 m14 cE hDQ;have f6:=f4.trans f5
  cases hb3:(goL (Cb most) (goL (Cb most) τ' (Cn (.mk k3 a3 nm3 n3 s3 ls3 args3) (d+1))).1 (Cm (.mk k2 a2 nm2 n2 s2 ls2 args2 arms2) (d+1))).2 with
  | false =>
   go_wp2_with fail;go_ret;have e:R=((goL (Cb most) (goL (Cb most) τ' (Cn (.mk k3 a3 nm3 n3 s3 ls3 args3) (d+1))).1 (Cm (.mk k2 a2 nm2 n2 s2 ls2 args2 arms2) (d+1))).1,false):=by rw[HG2.out,Fm,if_neg (by rw[hb3];decide)]
   rw[e]
   exact⟨rfl,hs4,f6⟩
  | true =>
   have hok4:Hid ((goL (Cb most) (goL (Cb most) τ' (Cn (.mk k3 a3 nm3 n3 s3 ls3 args3) (d+1))).1 (Cm (.mk k2 a2 nm2 n2 s2 ls2 args2 arms2) (d+1))).1.2=false):=Hz (Qp hok3.out hb3);have HG3:Hid (R=goL (Cb most) (goL (Cb most) (goL (Cb most) τ' (Cn (.mk k3 a3 nm3 n3 s3 ls3 args3) (d+1))).1 (Cm (.mk k2 a2 nm2 n2 s2 ls2 args2 arms2) (d+1))).1 (Cu (arms.drop (i+1)) (d+1))):=Hz (by rw[HG2.out,Fm,if_pos hb3]);exact qq214):p:=h
theorem nn193(h:p:=by
 have hpn:=Aa hs.a;have hpn2:=Aa hs.f;have kqq243:=@Hz _ @nn476;exact qq243):p:=h
theorem nn244(h:p:=by
 have f3:=(fb.mono (L':=[pa,pf]) (fun x hx=>by cases hx)).trans f3;have kqq64:=@Hz _ @nn174;exact qq64):p:=h
theorem nn326(h:p:=by
 refine(eachD pm pa pf most σ a D d HD.out w1 (HS.out.fr f0) HOK.out).mono ?_;rintro e w2 ⟨rfl,hs2,f2⟩;have q0:=f2.keep q0 sO;have f2:=(f0.mono (L':=[pa,pf]) (fun x hx=>by cases hx)).trans f2
 cases hb1:((Cb most) σ (a,d)).2 with
 | false =>
  exact qq211
 | true =>
  have HG:Hid (R=goL (Cb most) ((Cb most) σ (a,d)).1 (Dw (args.drop 0) (d+1)++Cu arms (d+1))):=Hz (by rw[← HR.out,if_pos hb1];rfl);have hok2:Hid (((Cb most) σ (a,d)).1.2=false):=Hz (Ww HOK.out hb1);clear hb1 HR;have hTx:=Aa q0;obtain⟨⟨l0,l1,l2,l3,l4,l5,l6,l7⟩,_⟩:=Ac q0;go_wp2_with fail;clear l0 l1 l2 l3 l4 l5 l6 l7
  go_loopw [20] (fun iv wr=>∃ (i:Nat) (τ:(Int×Bool)),iv=vI i∧i≤args.length∧DS pm pa pf most τ wr∧Hid (τ.2=false)∧Fr [pa,pf] w wr∧wr.heap[T]?=some (.cells #[vI k,vI a,vS nm,vI n,vS s,v5,.slice A6 args.length cc6,.slice A7 arms.length cc7] 27 (0,0))∧Hid (R=goL (Cb most) τ (Dw (args.drop i) (d+1)++Cu arms (d+1)))) (fun iv wr=>args.length-(intOf iv).toNat)
  case atStart=>exact⟨0,_,rfl,oM,hs2,hok2,f2,q0,HG⟩
  case round =>
   obtain⟨i,τ,rfl,hi,hs,hok,f,q0',HG⟩:=hrel;clear hok2 hs2 f2 q0 hTx;have q0:=q0';clear q0';have hTw:=Aa q0;by_cases hlt:i<args.length
   ·have kqq297:=@Hz _ @nn552;exact qq297
   ·have ei:i=args.length:=by omega
    subst ei;obtain⟨⟨l0,l1,l2,l3,l4,l5,l6,l7⟩,_⟩:=Ac q0;have HG2:Hid (R=goL (Cb most) τ (Cu (arms.drop 0) (d+1))):=Hz (by rw[HG.out,List.drop_length];simp[Dw]);clear HG q0;go_wp2_with fail;clear l0 l1 l2 l3 l4 l5 l6 l7
    go_loopw [34] (fun iv wr=>∃ (i:Nat) (τ:(Int×Bool)),iv=vI i∧i≤arms.length∧DS pm pa pf most τ wr∧Hid (τ.2=false)∧Fr [pa,pf] w wr∧Hid (R=goL (Cb most) τ (Cu (arms.drop i) (d+1)))) (fun iv wr=>arms.length-(intOf iv).toNat)
    case atStart=>exact⟨0,_,rfl,oM,hs,hok,f,HG2⟩
    case round =>
     clear HG2 hs hok hTw f;obtain⟨i,τ',rfl,hi',hs,hok,f,HG⟩:=hrel;by_cases hlt:i<arms.length
     ·obtain⟨p,y,hy⟩:∃ p y,arms[i]?=some (p,y):=⟨(arms[i]).1,(arms[i]).2,Lg' hlt⟩
      have HY:=Hz hy;clear hy;have hpx:=E7.out i p y HY.out;have hyx:=E8.out i p y HY.out
      rcases H7.out with⟨_,_,_,hl⟩| ⟨g,og,c',hv,hg,hgs,_,hcs⟩
      ·omega
      ·have kqq26:=@Hz _ @nn89;exact qq26
     ·exact qq193):p:=h
theorem nn476(h:p:=by
 generalize hR:(if ((Cb most) σ (a,d)).2=true then goL (Cb most) ((Cb most) σ (a,d)).1 (Dw args (d+1)++Cu arms (d+1))else (((Cb most) σ (a,d)).1,false))=R;have kqq122:=@Hz _ @nn326;exact qq122):p:=h
theorem nn552(h:p:=by
 rcases H6.out with⟨_,_,_,hl⟩| ⟨g,og,c',hv,hg,hgs,_,hcs⟩
 ·omega
 ·have kqq28:=@Hz _ @nn91;exact qq28):p:=h
theorem walkD_step(pm pa pf:Nat)(most:Int)(lo:Nat)(hl:lo≤pa)(hl2:lo≤pf)(N:Nat)(ih:WTD pm pa pf most lo N):WTD pm pa pf most lo (N+1):=by
 have kqq69:=@Hz _ @nn193;exact qq69
theorem Uu(pm pa pf:Nat)(most:Int)(lo:Nat)(hl:lo≤pa)(hl2:lo≤pf):∀ N,WTD pm pa pf most lo N
 | 0=>fun _ _ _ _ _ _ _ _ _ _ _ _ _ _ _ h=>absurd h (Nat.not_lt_zero _)
 | N+1=>walkD_step pm pa pf most lo hl hl2 N (Uu pm pa pf most lo hl hl2 N)
theorem nn376(h:p:=by
 have hpm:=Ae (Ag (w.alloc (.cells #[vI k,vI a,vS nm,vI n,vS s,.slice A5 m5 cc5,.slice A6 m6 cc6,.slice A7 m7 cc7] 27)) (.cells #[vI most] 3)) (.cells #[vI 0] 3);have hpn:=Ag ((w.alloc (.cells #[vI k,vI a,vS nm,vI n,vS s,.slice A5 m5 cc5,.slice A6 m6 cc6,.slice A7 m7 cc7] 27)).alloc (.cells #[vI most] 3)) (.cells #[vI 0] 3);rw[s1] at hpm;rw[s2] at hpn
 have hCS:CS (w.heap.size+2) (w.heap.size+1) most 0 (((w.alloc (.cells #[vI k,vI a,vS nm,vI n,vS s,.slice A5 m5 cc5,.slice A6 m6 cc6,.slice A7 m7 cc7] 27)).alloc (.cells #[vI most] 3)).alloc (.cells #[vI 0] 3)):=⟨hpn,hpm,oM,hm1,oM⟩
 have hxx:=HX.out.keep (w':=((w.alloc (.cells #[vI k,vI a,vS nm,vI n,vS s,.slice A5 m5 cc5,.slice A6 m6 cc6,.slice A7 m7 cc7] 27)).alloc (.cells #[vI most] 3)).alloc (.cells #[vI 0] 3)) (ok':=fun b=>b<w.heap.size) (Sh.of_fr f0 (fun b hb hlt=>⟨hb,fun x=>by cases x⟩));refine(cW w.heap.size (szE (.mk k a nm n s ls args arms)+1) (w.heap.size+2) (w.heap.size+1) oM).out _ 0 oM rfl (by have:=HSZ.out;omega) f0.size hxx hCS hm0 |>.mono ?_
 rintro e w2 ⟨rfl,hs2,f2⟩;rw[HG.out] at hs2;have c0:=Ab hs2.n 0;have hl2:=Aa hs2.n;go_wp2_with fail;go_ret;exact⟨rfl,f0.step f2 (fun x hx => .inr (by simp at hx;omega))⟩):p:=h
theorem Tl(k a:Int)(nm:LB)(n:Int)(s:LB)(ls:List LB)(args:List Ad)(arms:List (Al×Ad))(A5:Option Addr)(m5 cc5:Nat)(A6:Option Addr)(m6 cc6:Nat)(A7:Option Addr)(m7 cc7:Nat)(most:Int)(hm0:0≤most)(hm1:most≤1099511627776)(w:World)(hx:Ak w (fun b=>b<w.heap.size) (.mk k a nm n s ls args arms) [vI k,vI a,vS nm,vI n,vS s,.slice A5 m5 cc5,.slice A6 m6 cc6,.slice A7 m7 cc7])(hsz:szE (.mk k a nm n s ls args arms)≤1099511627775):
  Calls prog 17 #[.agg #[vI k,vI a,vS nm,vI n,vS s,.slice A5 m5 cc5,.slice A6 m6 cc6,.slice A7 m7 cc7],vI most] w fun e w'=>e = .returned (vI (min (szE (.mk k a nm n s ls args arms):Int) (most+1)))∧Fr [] w w':=by
 have hG:goL (Du most) 0 (Cm (.mk k a nm n s ls args arms) 1)=(min (szE (.mk k a nm n s ls args arms):Int) (most+1),decide ((szE (.mk k a nm n s ls args arms):Int)≤most)):=by
  rw[cnt_go most _ 0 hm0,J7];simp
 have HX:=Hz hx;have HSZ:=Hz hsz;have HG:=Hz hG;have cW:=fun lo N pn pm hl=>Hz (Ut pn pm most lo hl N k a nm n s ls args arms (.slice A5 m5 cc5) (.slice A6 m6 cc6) (.slice A7 m7 cc7) 1 1)
 generalize min (szE (.mk k a nm n s ls args arms):Int) (most+1)=R at *
 clear hx hsz hG;go_enter func17,ntmps17;go_wp2_with fail
 have f0:Fr [] w (((w.alloc (.cells #[vI k,vI a,vS nm,vI n,vS s,.slice A5 m5 cc5,.slice A6 m6 cc6,.slice A7 m7 cc7] 27)).alloc (.cells #[vI most] 3)).alloc (.cells #[vI 0] 3)):=((((Fr.refl [] w).alloc _).alloc _).alloc _)
 have kqq173:=@Hz _ @nn376;exact qq173
def Hj(most:Int)(x:Ad):Option (Int×Nat):=(Cm x 1).find? (fun p=>decide (most<(p.2:Int)))
theorem nn375(h:p:=by
 have s3:(((w.alloc (.cells #[vI k,vI a,vS nm,vI n,vS s,.slice A5 m5 cc5,.slice A6 m6 cc6,.slice A7 m7 cc7] 27)).alloc (.cells #[vI most] 3)).alloc (.cells #[vI 0] 3)).heap.size=w.heap.size+3:=by simp
 have hpm:=Ae (Ae (Ag (w.alloc (.cells #[vI k,vI a,vS nm,vI n,vS s,.slice A5 m5 cc5,.slice A6 m6 cc6,.slice A7 m7 cc7] 27)) (.cells #[vI most] 3)) (.cells #[vI 0] 3)) (.cells #[.bool false] 4);have hpa:=Ae (Ag ((w.alloc (.cells #[vI k,vI a,vS nm,vI n,vS s,.slice A5 m5 cc5,.slice A6 m6 cc6,.slice A7 m7 cc7] 27)).alloc (.cells #[vI most] 3)) (.cells #[vI 0] 3)) (.cells #[.bool false] 4);have hpf:=Ag (((w.alloc (.cells #[vI k,vI a,vS nm,vI n,vS s,.slice A5 m5 cc5,.slice A6 m6 cc6,.slice A7 m7 cc7] 27)).alloc (.cells #[vI most] 3)).alloc (.cells #[vI 0] 3)) (.cells #[.bool false] 4);rw[s1] at hpm;rw[s2] at hpa;rw[s3] at hpf
 have hDS:DS (w.heap.size+1) (w.heap.size+2) (w.heap.size+3) most (0,false) ((((w.alloc (.cells #[vI k,vI a,vS nm,vI n,vS s,.slice A5 m5 cc5,.slice A6 m6 cc6,.slice A7 m7 cc7] 27)).alloc (.cells #[vI most] 3)).alloc (.cells #[vI 0] 3)).alloc (.cells #[.bool false] 4)):=⟨hpm,hpa,hpf,oM,oM,oM⟩
 have hxx:=HX.out.keep (w':=(((w.alloc (.cells #[vI k,vI a,vS nm,vI n,vS s,.slice A5 m5 cc5,.slice A6 m6 cc6,.slice A7 m7 cc7] 27)).alloc (.cells #[vI most] 3)).alloc (.cells #[vI 0] 3)).alloc (.cells #[.bool false] 4)) (ok':=fun b=>b<w.heap.size) (Sh.of_fr f0 (fun b hb hlt=>⟨hb,fun x=>by cases x⟩));refine(cW w.heap.size (szE (.mk k a nm n s ls args arms)+1) (w.heap.size+1) (w.heap.size+2) (w.heap.size+3) oM oM).out _ (0,false) oM rfl (by have:=HSZ.out;omega) f0.size hxx hDS rfl |>.mono ?_
 rintro e w2 ⟨rfl,hs2,f2⟩;rw[HG.out] at hs2
 generalize (goL (Cb most) (0,false) (Cm (.mk k a nm n s ls args arms) 1)).2=RB at *
 have c0:w2.cell? ⟨w.heap.size+2,0,none⟩=some (vI ra):=Ab hs2.a 0;have c1:w2.cell? ⟨w.heap.size+3,0,none⟩=some (.bool rf):=Ab hs2.f 0;have hl2:=Aa hs2.a;have hl3:=Aa hs2.f;go_wp2_with fail;go_quiet (fail);go_wp2_with fail;go_ret2;exact⟨rfl,(f0.step f2 (fun x hx => .inr (by simp at hx;omega))).drewN _⟩):p:=h
theorem V8(k a:Int)(nm:LB)(n:Int)(s:LB)(ls:List LB)(args:List Ad)(arms:List (Al×Ad))(A5:Option Addr)(m5 cc5:Nat)(A6:Option Addr)(m6 cc6:Nat)(A7:Option Addr)(m7 cc7:Nat)(most:Int)(w:World)(hx:Ak w (fun b=>b<w.heap.size) (.mk k a nm n s ls args arms) [vI k,vI a,vS nm,vI n,vS s,.slice A5 m5 cc5,.slice A6 m6 cc6,.slice A7 m7 cc7])(hsz:szE (.mk k a nm n s ls args arms)≤1099511627775):
  Calls prog 18 #[.agg #[vI k,vI a,vS nm,vI n,vS s,.slice A5 m5 cc5,.slice A6 m6 cc6,.slice A7 m7 cc7],vI most] w fun e w'=>(e=match Hj most (.mk k a nm n s ls args arms)with
   | some p => .returned (.tuple #[vI p.1,.bool true])
   | none => .returned (.tuple #[vI 0,.bool false]))∧Fr [] w w':=by
 have hG0:=deep_go most (Cm (.mk k a nm n s ls args arms) 1) 0;have HX:=Hz hx;have HSZ:=Hz hsz;have cW:=fun lo N pm pa pf hl hl2=>Hz (Uu pm pa pf most lo hl hl2 N k a nm n s ls args arms (.slice A5 m5 cc5) (.slice A6 m6 cc6) (.slice A7 m7 cc7) 1 1)
 have key:∃ (ra:Int) (rf:Bool),(goL (Cb most) (0,false) (Cm (.mk k a nm n s ls args arms) 1)).1=(ra,rf)∧(match Hj most (.mk k a nm n s ls args arms)with
   | some p=>Ending.returned (.tuple #[vI p.1,.bool true])
   | none => .returned (.tuple #[vI 0,.bool false]))= .returned (.tuple #[vI ra,.bool rf]):=by
  unfold Hj;rw[hG0]
  cases (Cm (.mk k a nm n s ls args arms) 1).find? (fun p=>decide (most<(p.2:Int)))with
  | none=>exact⟨_,_,rfl,rfl⟩
  | some p=>exact⟨_,_,rfl,rfl⟩
 obtain⟨ra,rf,hG,hM⟩:=key;rw[hM];have HG:=Hz hG;clear hx hsz hG hM hG0;go_enter func18,ntmps18;go_wp2_with fail;have f0:Fr [] w ((((w.alloc (.cells #[vI k,vI a,vS nm,vI n,vS s,.slice A5 m5 cc5,.slice A6 m6 cc6,.slice A7 m7 cc7] 27)).alloc (.cells #[vI most] 3)).alloc (.cells #[vI 0] 3)).alloc (.cells #[.bool false] 4)):=((((Fr.refl [] w).alloc _).alloc _).alloc _).alloc _;have kqq173:=@Hz _ @nn375;exact qq173
end
theorem Wj{t:Tok}{ok:Bool}(h:t.k=1∨t.k=2∨t.k=4∨t.k=5):Di t ok=ok:=by
 have hw:O8 t=false:=by
  unfold O8;rcases h with h|h|h|h <;> rw[h] <;> rfl
 unfold Di isB;rw[hw];rcases h with h|h|h|h <;> rw[h] <;> cases ok <;> rfl
theorem Wk{t:Tok}{ok:Bool}(h1:(t.k==1)=false)(h2:(t.k==2)=false)(h4:(t.k==4)=false)(h5:(t.k==5)=false):Di t ok=isB t ok [[116,114,117,101],[102,97,108,115,101],[40],[123],[33]]:=by
 unfold Di;rw[h1,h2,h4,h5];simp
theorem nn361(h:p:=by
 go_ret;exact⟨rfl,f1⟩):p:=h
theorem Rf(P g c:Nat)(ts:List Tok)(st:St)(t:Tok)(ht:ts[st.i]?=some t)(w:World)(h:PSt P g c ts st w)(hE:Cx ts):
  Calls prog 139 #[.pointer (some ⟨P,0,none⟩)] w fun e w'=>e = .returned (.bool (Di t st.ok))∧Fr [] w w':=by
 have H:=Hz h;have HE:=Hz hE;have hP:=Aa h.blk;have cn:=fun w h=>Hz (Cr P g c ts st t ht w h hE)
 have r0:=Od;clear h hE;by_cases hk:t.k=1∨t.k=2∨t.k=4∨t.k=5
 ·rw[Wj hk];clear ht;obtain⟨i,ok⟩:=st;obtain⟨tk,ta,tt,tn⟩:=t;simp only at hk cn ⊢;rcases hk with hk|hk|hk|hk
  all_goals
   subst hk;go_enter func139,ntmps139;have kqq149:=@Hz _ @nn361;exact qq149
 ·have h1:(t.k==1)=false:=by rw[bN];exact fun e=>hk (.inl e)
  have h2:(t.k==2)=false:=by rw[bN];exact fun e=>hk (.inr (.inl e))
  have h4:(t.k==4)=false:=by rw[bN];exact fun e=>hk (.inr (.inr (.inl e)))
  have h5:(t.k==5)=false:=by rw[bN];exact fun e=>hk (.inr (.inr (.inr e)))
  rw[Wk h1 h2 h4 h5];clear hk;have ci:=fun(x:World) (f:Fr [] w x) cl=>Hz (Ic P g c ts st t ht x.heap.size cl [[116,114,117,101],[102,97,108,115,101],[40],[123],[33]] sM (x.alloc (.cells #[.string ⟨[116,114,117,101].toArray⟩,.string ⟨[102,97,108,115,101].toArray⟩,.string ⟨[40].toArray⟩,.string ⟨[123].toArray⟩,.string ⟨[33].toArray⟩] 9)) (H.out.fr (f.alloc _)) (Gm.lit x [[116,114,117,101],[102,97,108,115,101],[40],[123],[33]] _) sM HE.out)
  generalize isB t st.ok [[116,114,117,101],[102,97,108,115,101],[40],[123],[33]]=R at *
  clear ht;obtain⟨i,ok⟩:=st;obtain⟨tk,ta,tt,tn⟩:=t;simp only at h1 h2 h4 h5 cn ⊢;go_enter func139,ntmps139;go_wp2_with fail;refine(cn _ H.out).out.mono ?_;rintro e x1 ⟨rfl,f1⟩;have hc:=ci x1 f1;go_wp2_with fail;refine(hc _).out.mono ?_;rintro e x2 ⟨rfl,f2⟩;go_wp2_with fail;go_ret;exact⟨rfl,(f1.alloc _).trans f2⟩
end Go.Proofs.YtlafbbnikgcdlaaGreatDoor
