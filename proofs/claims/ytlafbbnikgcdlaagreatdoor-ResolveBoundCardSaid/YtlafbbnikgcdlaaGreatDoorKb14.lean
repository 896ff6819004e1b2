/- A part of the proof: Pf, Pj, Vs. -/
import Derived.Deep.DrawnRows
import Derived.Lib.UnsafeStr
import Derived.Shelf.RegionOpenPlain
import Derived.BigQuiet
import Derived.Deep.QuietTactic
import Derived.Test.YtlafbbnikgcdlaaGreatDoorKb10
import Derived.Test.YtlafbbnikgcdlaaGreatDoorKb9
namespace Go.Proofs.YtlafbbnikgcdlaaGreatDoor
open Go.RowKit
open _root_.Go.Proofs.Tryz
set_option linter.all false
set_option maxHeartbeats 16000000
set_option maxRecDepth 100000
variable{p:Prop}
open Bool renaming and_eq_true→Ba'
section
attribute [local go_sem ↓] Go.wp_at_zero Go.wp_at_succ
theorem begins_ok{t:Tok}{ok:Bool}(h:Di t ok=true):ok=true∧t.k≠0:=by
 unfold Di at h;simp only[Bool.or_eq_true,Ba',beq_iff_eq] at h;rcases h with h|h
 ·exact⟨h.1,oM⟩
 ·exact Jg h
theorem Ak.leaf(w:World)(ok:Nat→Prop)(k a:Int)(nm:LB)(n:Int)(s:LB):Ak w ok (.mk k a nm n s [] [] []) [vI k,vI a,vS nm,vI n,vS s,vZ,vZ,vZ] :=
 Ak.of_rows (c5:=fun _=>[]) (c6:=fun _=>[]) (c7:=fun _=>[]) An.nil_ An.nil_ An.nil_
def GB(ts:List Tok)(N:Nat):Prop:=∀ (P g c:Nat)(st:St)(a:Int)(w:World),PSt P g c ts st w→16 *(ts.length-st.i)+14<N→Calls prog 140 #[.pointer (some ⟨P,0,none⟩),.agg #[vI 0,vI a,vE,vI 0,vE,vZ,vZ,vZ]] w (Kw P g c ts st (body (.braces a)) w)
theorem nn68(h:p:=by
 have h0:=H.out.fr f0;obtain⟨t,ht⟩:=Bn hin;refine(Rf P g c ts st t ht w1 h0 HE.out).mono ?_;rintro e x1 ⟨rfl,f1⟩;have g0:=f1.keep g0 nE;have h1:=h0.fr f1;have fa:=(Fr.refl [] x1).alloc (.cells #[.string ⟨[33].toArray⟩] 9);have ci:=fun cl=>Hz (Ic P g c ts st t ht x1.heap.size cl [[33]] sM (x1.alloc (.cells #[.string ⟨[33].toArray⟩] 9)) (h1.fr fa) (Gm.one x1 [33] _) sM HE.out)
 cases hb:Di t st.ok with
 | false =>
  go_wp2_with fail;have f2:=f1;have hx:=h1;refine(Ky P g c ts st x1 h1 ).mono ?_;have kqq58:=@Hz _ @nn167
  exact qq58
 | true =>
  have HK0:=Hz (begins_ok hb)
  cases hb2:isB t st.ok [[33]] with
  | true =>
   rw[hb2] at ci;go_wp2_with fail;refine(ci _).out.mono ?_;rintro e y2 ⟨rfl,f2⟩;go_wp2_with fail;have f2:=fa.trans f2;have h1:=h1.fr f2;have g0:=f2.keep g0 nE;have f2:=f1.trans f2;refine(Ky P g c ts st y2 h1 ).mono ?_;have kqq58:=@Hz _ @nn166
   exact qq58
  | false =>
   rw[hb2] at ci
   have HR:Hid (∀ x st',Run ts (if t.k=1 then .retE (.mk 1 t.at' t.text 0 [] [] [] [])
   else if t.k=2 then .retE (.mk 6 t.at' t.text 0 [] [] [] [])
   else if t.k=4 then .retE (.mk 2 t.at' [] t.n [] [] [] [])
   else if t.k=5 then .retE (.mk 3 t.at' [] 0 t.text [] [] [])
   else if t.text=[116,114,117,101] then .retE (.mk 4 t.at' [] 1 [] [] [] [])
   else if t.text=[102,97,108,115,101] then .retE (.mk 4 t.at' [] 0 [] [] [] [])
   else if t.text=[123] then .callE (.braces t.at') .retE
   else Ed [41] fun b=>if b=true then .retE (.mk 5 t.at' [] 0 [] [] [] [])else .callE .seq fun x=>Ch [41] (.retE x)) ⟨st.i+1,st.ok⟩ (.e x) st'→Run ts (body .atom) st (.e x) st'):=Hz (fun x st' h => .look ht (by rw[hb,hb2];exact .adv h))
   go_wp2_with fail;refine(ci _).out.mono ?_;rintro e y2 ⟨rfl,f2⟩;go_wp2_with fail;have f2:=fa.trans f2;have h1:=h1.fr f2;have g0:=f2.keep g0 nE;have f2:=(f0.trans f1).trans f2;refine(Et P g c ts st t ht HK0.out.1 HK0.out.2 y2 h1 HE.out).mono ?_;rintro e x3 ⟨rfl,h3,f3⟩;have g0:=f3.keep g0 (by simpa using nB);have F3:=(f2.mono (fun x hx=>by cases hx)).trans f3;clear hb hb2 ht h0 h1 f1 f2 f3 fa ci f0
   cases t with
   | mk tk ta tt tn =>
   simp only at *
   by_cases e0:tk=1
   ·subst e0;go_wp2_with fail;have q3:=Ae (Ag x3 (.cells #[vI 1,vI ta,vS tt,vI tn] 52)) (.cells #[vI 0,vI ta,vE,vI 0,vE,vZ,vZ,vZ] 27);have q4:=Ag (x3.alloc (.cells #[vI 1,vI ta,vS tt,vI tn] 52)) (.cells #[vI 0,vI ta,vE,vI 0,vE,vZ,vZ,vZ] 27);have hsz:(x3.alloc (.cells #[vI 1,vI ta,vS tt,vI tn] 52)).heap.size=x3.heap.size+1:=by simp
    rw[hsz] at q4;clear hsz;have fbb:Fr [] x3 ((x3.alloc (.cells #[vI 1,vI ta,vS tt,vI tn] 52)).alloc (.cells #[vI 0,vI ta,vE,vI 0,vE,vZ,vZ,vZ] 27)):=((Fr.refl [] x3).alloc _).alloc _;have kqq337:=@Hz _ @nn639;exact qq337
   by_cases e1:tk=2
   ·subst e1;go_wp2_with fail;have q3:=Ae (Ag x3 (.cells #[vI 2,vI ta,vS tt,vI tn] 52)) (.cells #[vI 0,vI ta,vE,vI 0,vE,vZ,vZ,vZ] 27);have q4:=Ag (x3.alloc (.cells #[vI 2,vI ta,vS tt,vI tn] 52)) (.cells #[vI 0,vI ta,vE,vI 0,vE,vZ,vZ,vZ] 27);have hsz:(x3.alloc (.cells #[vI 2,vI ta,vS tt,vI tn] 52)).heap.size=x3.heap.size+1:=by simp
    rw[hsz] at q4;clear hsz;have fbb:Fr [] x3 ((x3.alloc (.cells #[vI 2,vI ta,vS tt,vI tn] 52)).alloc (.cells #[vI 0,vI ta,vE,vI 0,vE,vZ,vZ,vZ] 27)):=((Fr.refl [] x3).alloc _).alloc _;have kqq337:=@Hz _ @nn638;exact qq337
   by_cases e2:tk=4
   ·subst e2;go_wp2_with fail;have q3:=Ae (Ag x3 (.cells #[vI 4,vI ta,vS tt,vI tn] 52)) (.cells #[vI 0,vI ta,vE,vI 0,vE,vZ,vZ,vZ] 27);have q4:=Ag (x3.alloc (.cells #[vI 4,vI ta,vS tt,vI tn] 52)) (.cells #[vI 0,vI ta,vE,vI 0,vE,vZ,vZ,vZ] 27);have hsz:(x3.alloc (.cells #[vI 4,vI ta,vS tt,vI tn] 52)).heap.size=x3.heap.size+1:=by simp
    rw[hsz] at q4;clear hsz;have fbb:Fr [] x3 ((x3.alloc (.cells #[vI 4,vI ta,vS tt,vI tn] 52)).alloc (.cells #[vI 0,vI ta,vE,vI 0,vE,vZ,vZ,vZ] 27)):=((Fr.refl [] x3).alloc _).alloc _;have kqq337:=@Hz _ @nn637;exact qq337
   by_cases e3:tk=5
   ·subst e3;go_wp2_with fail;have q3:=Ae (Ag x3 (.cells #[vI 5,vI ta,vS tt,vI tn] 52)) (.cells #[vI 0,vI ta,vE,vI 0,vE,vZ,vZ,vZ] 27);have q4:=Ag (x3.alloc (.cells #[vI 5,vI ta,vS tt,vI tn] 52)) (.cells #[vI 0,vI ta,vE,vI 0,vE,vZ,vZ,vZ] 27);have hsz:(x3.alloc (.cells #[vI 5,vI ta,vS tt,vI tn] 52)).heap.size=x3.heap.size+1:=by simp
    rw[hsz] at q4;clear hsz;have fbb:Fr [] x3 ((x3.alloc (.cells #[vI 5,vI ta,vS tt,vI tn] 52)).alloc (.cells #[vI 0,vI ta,vE,vI 0,vE,vZ,vZ,vZ] 27)):=((Fr.refl [] x3).alloc _).alloc _;have kqq337:=@Hz _ @nn636;exact qq337
   have b0:(tk==1)=false:=bN.2 e0;have b1:(tk==2)=false:=bN.2 e1;have b2:(tk==4)=false:=bN.2 e2;have b3:(tk==5)=false:=bN.2 e3;rw[if_neg e0,if_neg e1,if_neg e2,if_neg e3] at HR;clear e0 e1 e2 e3
   by_cases d0:tt=[116,114,117,101]
   ·subst d0;have hBT:=Aa g0;have HG:=Hz (Aq g0 (vI 4) (vI ta) (vE) (vI 1) (vE) (vZ) (vZ) (vZ));have HF:=Hz ((F3).step (Aj x3 B (vI 4) (vI ta) (vE) (vI 1) (vE) (vZ) (vZ) (vZ)) (fun x hx => .inr (by simp at hx;omega)));have HP:=Hz ((h3).frL (Aj x3 B (vI 4) (vI ta) (vE) (vI 1) (vE) (vZ) (vZ) (vZ)) (by simpa using nP) (by simpa using ng));unfold st8 at HG HF HP;obtain⟨⟨u0,u1,u2,u3,u4,u5,u6,u7⟩,z0,z1,z2,z3,z4,z5,z6,z7⟩:=Ac g0;go_wp2_with fail;generalize (((((((x3.setCell ⟨B,0,none⟩ (vI 4)).setCell ⟨B,1,none⟩ (vI ta)).setCell ⟨B,2,none⟩ (vE)).setCell ⟨B,3,none⟩ (vI 1)).setCell ⟨B,4,none⟩ (vE)).setCell ⟨B,5,none⟩ (vZ)).setCell ⟨B,6,none⟩ (vZ)).setCell ⟨B,7,none⟩ (vZ)=Z at HG HF HP ⊢;obtain⟨⟨d0,d1,d2,d3,d4,d5,d6,d7⟩,_⟩:=Ac (Ae (Ae HG.out (.cells #[vI tk,vI ta,.string ⟨[116,114,117,101].toArray⟩,vI tn] 52)) (.cells #[vI 4,vI ta,vE,vI 1,vE,vZ,vZ,vZ] 27));refine bodyPost_ret (v:=.agg #[vI 4,vI ta,vE,vI 1,vE,vZ,vZ,vZ]) ?_ rfl ?_
    ·exact qq110
    ·exact⟨_,_,_,_,_,_,_,_,_,_,_,_,_,_,_,_,_,_,rfl,Ak.leaf _ _ 4 ta [] 1 [],HR.out _ _ (by simp;exact .retE),HP.out.fr (((Fr.refl [] Z).alloc _).alloc _),((HF.out).alloc _).alloc _⟩
   have c0:(tt==[116,114,117,101])=false:=bN.2 d0;rw[if_neg d0] at HR;clear d0
   by_cases d1:tt=[102,97,108,115,101]
   ·subst d1;have hBT:=Aa g0;have HG:=Hz (Aq g0 (vI 4) (vI ta) (vE) (vI 0) (vE) (vZ) (vZ) (vZ));have HF:=Hz ((F3).step (Aj x3 B (vI 4) (vI ta) (vE) (vI 0) (vE) (vZ) (vZ) (vZ)) (fun x hx => .inr (by simp at hx;omega)));have HP:=Hz ((h3).frL (Aj x3 B (vI 4) (vI ta) (vE) (vI 0) (vE) (vZ) (vZ) (vZ)) (by simpa using nP) (by simpa using ng));unfold st8 at HG HF HP;obtain⟨⟨u0,u1,u2,u3,u4,u5,u6,u7⟩,z0,z1,z2,z3,z4,z5,z6,z7⟩:=Ac g0;go_wp2_with fail;generalize (((((((x3.setCell ⟨B,0,none⟩ (vI 4)).setCell ⟨B,1,none⟩ (vI ta)).setCell ⟨B,2,none⟩ (vE)).setCell ⟨B,3,none⟩ (vI 0)).setCell ⟨B,4,none⟩ (vE)).setCell ⟨B,5,none⟩ (vZ)).setCell ⟨B,6,none⟩ (vZ)).setCell ⟨B,7,none⟩ (vZ)=Z at HG HF HP ⊢;obtain⟨⟨d0,d1,d2,d3,d4,d5,d6,d7⟩,_⟩:=Ac (Ae (Ae HG.out (.cells #[vI tk,vI ta,.string ⟨[102,97,108,115,101].toArray⟩,vI tn] 52)) (.cells #[vI 4,vI ta,vE,vI 0,vE,vZ,vZ,vZ] 27));refine bodyPost_ret (v:=.agg #[vI 4,vI ta,vE,vI 0,vE,vZ,vZ,vZ]) ?_ rfl ?_
    ·exact qq110
    ·exact⟨_,_,_,_,_,_,_,_,_,_,_,_,_,_,_,_,_,_,rfl,Ak.leaf _ _ 4 ta [] 0 [],HR.out _ _ (by simp;exact .retE),HP.out.fr (((Fr.refl [] Z).alloc _).alloc _),((HF.out).alloc _).alloc _⟩
   have c1:(tt==[102,97,108,115,101])=false:=bN.2 d1;rw[if_neg d1] at HR;clear d1
   by_cases d2:tt=[123]
   ·subst d2;rw[if_pos rfl] at HR;go_wp2_with fail;have q3:=Ae (Ag x3 (.cells #[vI tk,vI ta,.string ⟨[123].toArray⟩,vI tn] 52)) (.cells #[vI 0,vI ta,vE,vI 0,vE,vZ,vZ,vZ] 27);have q4:=Ag (x3.alloc (.cells #[vI tk,vI ta,.string ⟨[123].toArray⟩,vI tn] 52)) (.cells #[vI 0,vI ta,vE,vI 0,vE,vZ,vZ,vZ] 27);have hsz:(x3.alloc (.cells #[vI tk,vI ta,.string ⟨[123].toArray⟩,vI tn] 52)).heap.size=x3.heap.size+1:=by simp
    rw[hsz] at q4;clear hsz;have fbb:Fr [] x3 ((x3.alloc (.cells #[vI tk,vI ta,.string ⟨[123].toArray⟩,vI tn] 52)).alloc (.cells #[vI 0,vI ta,vE,vI 0,vE,vZ,vZ,vZ] 27)):=((Fr.refl [] x3).alloc _).alloc _;have kqq337:=@Hz _ @nn635;exact qq337
   have c2:(tt==[123])=false:=bN.2 d2;rw[if_neg d2] at HR;clear d2;go_wp2_with fail;have q3:=Ae (Ag x3 (.cells #[vI tk,vI ta,vS tt,vI tn] 52)) (.cells #[vI 0,vI ta,vE,vI 0,vE,vZ,vZ,vZ] 27);have q4:=Ag (x3.alloc (.cells #[vI tk,vI ta,vS tt,vI tn] 52)) (.cells #[vI 0,vI ta,vE,vI 0,vE,vZ,vZ,vZ] 27);have hsz:(x3.alloc (.cells #[vI tk,vI ta,vS tt,vI tn] 52)).heap.size=x3.heap.size+1:=by simp
   rw[hsz] at q4;clear hsz;have fbb:Fr [] x3 ((x3.alloc (.cells #[vI tk,vI ta,vS tt,vI tn] 52)).alloc (.cells #[vI 0,vI ta,vE,vI 0,vE,vZ,vZ,vZ] 27)):=((Fr.refl [] x3).alloc _).alloc _;have kqq337:=@Hz _ @nn634;exact qq337):p:=h
theorem nn76(h:p:=by
 refine bodyPost_ret (v:=.agg #[vI k2,vI a2,vS nm2,vI n2,vS s2,.slice A52 n52 c52,.slice A62 n62 c62,.slice A72 n72 c72]) ?_ rfl ?_
 ·exact qq110
 ·exact⟨_,_,_,_,_,_,_,_,_,_,_,_,_,_,_,_,_,_,rfl,by rw[hB];exact HX.out,HR.out _ _ (.callE hr2 .retE),HP.out,HF.out⟩):p:=h
theorem nn166(h:p:=by
 refine bodyPost_ret (v:=.agg #[vI 0,vI 0,vE,vI 0,vE,vZ,vZ,vZ]) ?_ rfl ?_
 ·exact qq110
 ·exact⟨_,_,_,_,_,_,_,_,_,_,_,_,_,_,_,_,_,_,rfl,by rw[hB];exact HX.out,by unfold body;exact .look ht (by rw[hb,hb2];exact .fail .retE),HP.out,HF.out⟩):p:=h
theorem nn167(h:p:=by
 refine bodyPost_ret (v:=.agg #[vI 0,vI 0,vE,vI 0,vE,vZ,vZ,vZ]) ?_ rfl ?_
 ·exact qq110
 ·exact⟨_,_,_,_,_,_,_,_,_,_,_,_,_,_,_,_,_,_,rfl,by rw[hB];exact HX.out,by unfold body;exact .look ht (by rw[hb];exact .fail .retE),HP.out,HF.out⟩):p:=h
theorem nn188(h:p:=by
 go_enter func109,ntmps109;have kqq18:=@Hz _ @nn68;exact qq18):p:=h
theorem nn253(h:p:=by
 have HF:=Hz ((F5.trans f6).step (Aj x6 B (vI k2) (vI a2) (vS nm2) (vI n2) (vS s2) (.slice A52 n52 c52) (.slice A62 n62 c62) (.slice A72 n72 c72)) (fun x hx => .inr (by simp at hx;omega)));have kqq19:=@Hz _ @nn76;exact qq19):p:=h
theorem nn317(h:p:=by
 generalize (((((((x9.setCell ⟨B,0,none⟩ (vI k2)).setCell ⟨B,1,none⟩ (vI a2)).setCell ⟨B,2,none⟩ (vS nm2)).setCell ⟨B,3,none⟩ (vI n2)).setCell ⟨B,4,none⟩ (vS s2)).setCell ⟨B,5,none⟩ (.slice A52 n52 c52)).setCell ⟨B,6,none⟩ (.slice A62 n62 c62)).setCell ⟨B,7,none⟩ (.slice A72 n72 c72)=Z at HG HF HP HX ⊢;obtain⟨⟨d0,d1,d2,d3,d4,d5,d6,d7⟩,_⟩:=Ac HG.out;refine bodyPost_ret (v:=.agg #[vI k2,vI a2,vS nm2,vI n2,vS s2,.slice A52 n52 c52,.slice A62 n62 c62,.slice A72 n72 c72]) ?_ rfl ?_
 ·exact qq110
 ·exact⟨_,_,_,_,_,_,_,_,_,_,_,_,_,_,_,_,_,_,rfl,by rw[hB];exact HX.out,HR.out _ _ (.may_no hu hb (.els (.callE hr2 (.must_ hv .retE)))),HP.out,HF.out⟩):p:=h
theorem nn318(h:p:=by
 generalize ((((((((x7.setCell ⟨T3+1,0,none⟩ (vI 5)).setCell ⟨B,0,none⟩ (vI 5)).setCell ⟨B,1,none⟩ (vI ta)).setCell ⟨B,2,none⟩ (vE)).setCell ⟨B,3,none⟩ (vI 0)).setCell ⟨B,4,none⟩ (vE)).setCell ⟨B,5,none⟩ (vZ)).setCell ⟨B,6,none⟩ (vZ)).setCell ⟨B,7,none⟩ (vZ)=Z at HG HF HP HX ⊢;obtain⟨⟨d0,d1,d2,d3,d4,d5,d6,d7⟩,_⟩:=Ac HG.out;refine bodyPost_ret (v:=.agg #[vI 5,vI ta,vE,vI 0,vE,vZ,vZ,vZ]) ?_ rfl ?_
 ·exact qq110
 ·exact⟨_,_,_,_,_,_,_,_,_,_,_,_,_,_,_,_,_,_,rfl,by rw[hB];exact HX.out,HR.out _ _ (.may_yes hu hb (.thn .retE)),HP.out,HF.out⟩):p:=h
theorem nn319(h:p:=by
 generalize (((((((x6.setCell ⟨B,0,none⟩ (vI 3)).setCell ⟨B,1,none⟩ (vI ta)).setCell ⟨B,2,none⟩ (vE)).setCell ⟨B,3,none⟩ (vI 0)).setCell ⟨B,4,none⟩ (vS tt)).setCell ⟨B,5,none⟩ (vZ)).setCell ⟨B,6,none⟩ (vZ)).setCell ⟨B,7,none⟩ (vZ)=Z at HG HF HP HX ⊢;obtain⟨⟨d0,d1,d2,d3,d4,d5,d6,d7⟩,_⟩:=Ac HG.out;refine bodyPost_ret (v:=.agg #[vI 3,vI ta,vE,vI 0,vS tt,vZ,vZ,vZ]) ?_ rfl ?_
 ·exact qq110
 ·exact qq132):p:=h
theorem nn320(h:p:=by
 generalize (((((((x6.setCell ⟨B,0,none⟩ (vI 2)).setCell ⟨B,1,none⟩ (vI ta)).setCell ⟨B,2,none⟩ (vE)).setCell ⟨B,3,none⟩ (vI tn)).setCell ⟨B,4,none⟩ (vE)).setCell ⟨B,5,none⟩ (vZ)).setCell ⟨B,6,none⟩ (vZ)).setCell ⟨B,7,none⟩ (vZ)=Z at HG HF HP HX ⊢;obtain⟨⟨d0,d1,d2,d3,d4,d5,d6,d7⟩,_⟩:=Ac HG.out;refine bodyPost_ret (v:=.agg #[vI 2,vI ta,vE,vI tn,vE,vZ,vZ,vZ]) ?_ rfl ?_
 ·exact qq110
 ·exact qq132):p:=h
theorem nn321(h:p:=by
 generalize (((((((x6.setCell ⟨B,0,none⟩ (vI 6)).setCell ⟨B,1,none⟩ (vI ta)).setCell ⟨B,2,none⟩ (vS tt)).setCell ⟨B,3,none⟩ (vI 0)).setCell ⟨B,4,none⟩ (vE)).setCell ⟨B,5,none⟩ (vZ)).setCell ⟨B,6,none⟩ (vZ)).setCell ⟨B,7,none⟩ (vZ)=Z at HG HF HP HX ⊢;obtain⟨⟨d0,d1,d2,d3,d4,d5,d6,d7⟩,_⟩:=Ac HG.out;refine bodyPost_ret (v:=.agg #[vI 6,vI ta,vS tt,vI 0,vE,vZ,vZ,vZ]) ?_ rfl ?_
 ·exact qq110
 ·exact qq132):p:=h
theorem nn322(h:p:=by
 generalize (((((((x6.setCell ⟨B,0,none⟩ (vI 1)).setCell ⟨B,1,none⟩ (vI ta)).setCell ⟨B,2,none⟩ (vS tt)).setCell ⟨B,3,none⟩ (vI 0)).setCell ⟨B,4,none⟩ (vE)).setCell ⟨B,5,none⟩ (vZ)).setCell ⟨B,6,none⟩ (vZ)).setCell ⟨B,7,none⟩ (vZ)=Z at HG HF HP HX ⊢;obtain⟨⟨d0,d1,d2,d3,d4,d5,d6,d7⟩,_⟩:=Ac HG.out;refine bodyPost_ret (v:=.agg #[vI 1,vI ta,vS tt,vI 0,vE,vZ,vZ,vZ]) ?_ rfl ?_
 ·exact qq110
 ·exact qq132):p:=h
theorem nn449(h:p:=by
 clear m0 m1 m2 m3 u0 u1 u2 u3 u4 u5 u6 u7 z0 z1 z2 z3 z4 z5 z6 z7;obtain⟨u,hu⟩:=Bn h5.inb
 cases hb:isB u st.ok [[41]] with
 | true =>
  refine(may_yes [41] P g c ts _ u hu hb x5 h5 HE.out).mono ?_;rintro e x7 ⟨rfl,h7,f7⟩;have g0:=f7.keep g0 (by simpa using nB);have q4:=f7.keep q4 sO;have F7:=F5.trans f7;have fs:=(Fr.refl [T3+1] x7).setCell (p:=⟨T3+1,0,none⟩) (.inl sM) (vI 5);obtain⟨⟨m0,m1,m2,m3,m4,m5,m6,m7⟩,j0,j1,j2,j3,j4,j5,j6,j7⟩:=Ac q4;obtain⟨⟨l0,l1,l2,l3,l4,l5,l6,l7⟩,y0,y1,y2,y3,y4,y5,y6,y7⟩:=Ac g0;have hT7:=Aa q4;have hB7:=Aa g0;have n1:¬ B=T3+1:=by omega
  have n2:¬ T3+1=B:=by omega
  have g0:=fs.keep g0 sO;have h8:=h7.frL fs sO sO;have F8:=F7.step fs (fun x hx => .inr (by simp at hx;omega));have HG:=Hz (Aq g0 (vI 5) (vI ta) (vE) (vI 0) (vE) (vZ) (vZ) (vZ));have HF:=Hz ((F8).step (Aj (x7.setCell ⟨T3+1,0,none⟩ (vI 5)) B (vI 5) (vI ta) (vE) (vI 0) (vE) (vZ) (vZ) (vZ)) (fun x hx => .inr (by simp at hx;omega)));have HP:=Hz ((h8).frL (Aj (x7.setCell ⟨T3+1,0,none⟩ (vI 5)) B (vI 5) (vI ta) (vE) (vI 0) (vE) (vZ) (vZ) (vZ)) (by simpa using nP) (by simpa using ng));have HX:Hid (Ak (st8 (x7.setCell ⟨T3+1,0,none⟩ (vI 5)) B (vI 5) (vI ta) (vE) (vI 0) (vE) (vZ) (vZ) (vZ)) (fun b=>B≤b) (.mk 5 ta [] 0 [] [] [] []) [vI 5,vI ta,vE,vI 0,vE,vZ,vZ,vZ]):=Hz (((Ak.leaf (x7.setCell ⟨T3+1,0,none⟩ (vI 5)) (fun b=>B<b) 5 ta [] 0 [])).keep (Sh.of_fr (Aj (x7.setCell ⟨T3+1,0,none⟩ (vI 5)) B (vI 5) (vI ta) (vE) (vI 0) (vE) (vZ) (vZ) (vZ)) (fun b hb hlt=>⟨oM,by simp;omega⟩)));have kqq120:=@Hz _ @nn318
  exact qq120
 | false =>
  refine(may_no [41] P g c ts _ u hu hb x5 h5 HE.out).mono ?_;rintro e x6 ⟨rfl,f6⟩;go_wp2_with fail;have h6:=h5.fr f6;have F6:=F5.trans0 f6;have g0:=f6.keep g0 nE;have q4:=f6.keep q4 nE;have hT6:=Aa q4;refine(IH.out.seq P g c ⟨st.i+1,st.ok⟩ x6 h6 (by have:=HN.out;have:=h6.inb;simp only at this ⊢;omega)).mono ?_;rintro e x7 ⟨k2,a2,nm2,n2,s2,ls2,args2,arms2,A52,n52,c52,A62,n62,c62,A72,n72,c72,st2,rfl,hx2,hr2,hst2,f7⟩;have g0:=f7.keep g0 (by simpa using nB);have q4:=f7.keep q4 sO;have F7:=F6.trans f7;have hT7:=Aa q4;have hx2:=hx2.keep (ok':=fun b=>B<b∧¬ b=T3+1∧¬ b=P) (Sh.of_fr (Fr.refl [] x7) (fun b hb hlt=>⟨by have:x6.heap.size≤b:=hb;exact⟨oM,oM,oM⟩,fun x=>by cases x⟩));obtain⟨⟨m0,m1,m2,m3,m4,m5,m6,m7⟩,j0,j1,j2,j3,j4,j5,j6,j7⟩:=Ac q4;have HG:=Hz (Aq q4 (vI k2) (vI a2) (vS nm2) (vI n2) (vS s2) (.slice A52 n52 c52) (.slice A62 n62 c62) (.slice A72 n72 c72));have HB0:=Hz ((Aj x7 (T3+1) (vI k2) (vI a2) (vS nm2) (vI n2) (vS s2) (.slice A52 n52 c52) (.slice A62 n62 c62) (.slice A72 n72 c72)).keep g0 sO);have HF:=Hz ((F7).step (Aj x7 (T3+1) (vI k2) (vI a2) (vS nm2) (vI n2) (vS s2) (.slice A52 n52 c52) (.slice A62 n62 c62) (.slice A72 n72 c72)) (fun x hx => .inr (by simp at hx;omega)));have HP:=Hz ((hst2).frL (Aj x7 (T3+1) (vI k2) (vI a2) (vS nm2) (vI n2) (vS s2) (.slice A52 n52 c52) (.slice A62 n62 c62) (.slice A72 n72 c72)) sO sO);have HS:=Hz (E0 x7 (T3+1) (vI k2) (vI a2) (vS nm2) (vI n2) (vS s2) (.slice A52 n52 c52) (.slice A62 n62 c62) (.slice A72 n72 c72));have HX2:Hid (Ak (st8 x7 (T3+1) (vI k2) (vI a2) (vS nm2) (vI n2) (vS s2) (.slice A52 n52 c52) (.slice A62 n62 c62) (.slice A72 n72 c72)) (fun b=>B<b∧¬ b=(T3+1)∧¬ b=P) (.mk k2 a2 nm2 n2 s2 ls2 args2 arms2) [vI k2,vI a2,vS nm2,vI n2,vS s2,.slice A52 n52 c52,.slice A62 n62 c62,.slice A72 n72 c72]):=Hz ((hx2).keep (Sh.of_fr (Aj x7 (T3+1) (vI k2) (vI a2) (vS nm2) (vI n2) (vS s2) (.slice A52 n52 c52) (.slice A62 n62 c62) (.slice A72 n72 c72)) (fun b hb hlt=>⟨hb,by simp;exact hb.2.1⟩)));unfold st8 at HG HB0 HF HP HS HX2;go_wp2_with fail;generalize (((((((x7.setCell ⟨T3+1,0,none⟩ (vI k2)).setCell ⟨T3+1,1,none⟩ (vI a2)).setCell ⟨T3+1,2,none⟩ (vS nm2)).setCell ⟨T3+1,3,none⟩ (vI n2)).setCell ⟨T3+1,4,none⟩ (vS s2)).setCell ⟨T3+1,5,none⟩ (.slice A52 n52 c52)).setCell ⟨T3+1,6,none⟩ (.slice A62 n62 c62)).setCell ⟨T3+1,7,none⟩ (.slice A72 n72 c72)=Z at HG HB0 HF HP HS HX2 ⊢;clear m0 m1 m2 m3 m4 m5 m6 m7 j0 j1 j2 j3 j4 j5 j6 j7;obtain⟨v,hv⟩:=Bn hst2.inb;refine(Cp [41] P g c ts st2 v hv Z HP.out HE.out).mono ?_;rintro e x9 ⟨rfl,h9,f9⟩;have g0:=f9.keep HB0.out (by simpa using nB);have q4:=f9.keep HG.out sO;have F9:=HF.out.trans f9;have hx2:=HX2.out.keep (ok':=fun b=>B<b) (Sh.of_fr f9 (fun b hb hlt=>⟨hb.1,by simp;exact hb.2.2⟩));obtain⟨⟨l0,l1,l2,l3,l4,l5,l6,l7⟩,_⟩:=Ac q4;clear HG HB0 HF HP HS HX2;have HG:=Hz (Aq g0 (vI k2) (vI a2) (vS nm2) (vI n2) (vS s2) (.slice A52 n52 c52) (.slice A62 n62 c62) (.slice A72 n72 c72));have HF:=Hz ((F9).step (Aj x9 B (vI k2) (vI a2) (vS nm2) (vI n2) (vS s2) (.slice A52 n52 c52) (.slice A62 n62 c62) (.slice A72 n72 c72)) (fun x hx => .inr (by simp at hx;omega)));have HP:=Hz ((h9).frL (Aj x9 B (vI k2) (vI a2) (vS nm2) (vI n2) (vS s2) (.slice A52 n52 c52) (.slice A62 n62 c62) (.slice A72 n72 c72)) (by simpa using nP) (by simpa using ng));have HX:Hid (Ak (st8 x9 B (vI k2) (vI a2) (vS nm2) (vI n2) (vS s2) (.slice A52 n52 c52) (.slice A62 n62 c62) (.slice A72 n72 c72)) (fun b=>B≤b) (.mk k2 a2 nm2 n2 s2 ls2 args2 arms2) [vI k2,vI a2,vS nm2,vI n2,vS s2,.slice A52 n52 c52,.slice A62 n62 c62,.slice A72 n72 c72]):=Hz ((hx2).keep (Sh.of_fr (Aj x9 B (vI k2) (vI a2) (vS nm2) (vI n2) (vS s2) (.slice A52 n52 c52) (.slice A62 n62 c62) (.slice A72 n72 c72)) (fun b hb hlt=>⟨oM,by simp;omega⟩)));have kqq120:=@Hz _ @nn317;exact qq120):p:=h
theorem nn450(h:p:=by
 clear m0 m1 m2 m3 u0 u1 u2 u3 u4 u5 u6 u7 z0 z1 z2 z3 z4 z5 z6 z7;refine(IHB.out P g c ⟨st.i+1,st.ok⟩ ta x5 h5 (by have:=HN.out;have:=h5.inb;simp only at this ⊢;omega)).mono ?_;have kqq360:=@Hz _ @nn706;exact qq360):p:=h
theorem nn451(h:p:=by
 go_region_held3 (fun w'=>w'.cell? ⟨T3,2,none⟩=some (vS tt)) (go_keep) (fail)
 have q6:(((x5.setCell ⟨T3+1,0,none⟩ (vI 3)).setCell ⟨T3+1,4,none⟩ (vS tt)).drew).heap[T3+1]?=some (.cells #[vI 3,vI ta,vE,vI 0,vS tt,vZ,vZ,vZ] 27 (0,0)):=Cl (Cl q4 0 (vI 3)) 4 (vS tt);have fs:Fr [T3+1] x5 (((x5.setCell ⟨T3+1,0,none⟩ (vI 3)).setCell ⟨T3+1,4,none⟩ (vS tt)).drew):=(((Fr.refl [T3+1] x5).setCell (p:=⟨T3+1,0,none⟩) (.inl sM) _).setCell (p:=⟨T3+1,4,none⟩) (.inl sM) _).drew;have kqq324:=@Hz _ @nn606;exact qq324):p:=h
theorem nn452(h:p:=by
 go_region_held3 (fun w'=>w'.cell? ⟨T3,3,none⟩=some (vI tn)) (go_keep) (fail)
 have q6:(((x5.setCell ⟨T3+1,0,none⟩ (vI 2)).setCell ⟨T3+1,3,none⟩ (vI tn)).drew).heap[T3+1]?=some (.cells #[vI 2,vI ta,vE,vI tn,vE,vZ,vZ,vZ] 27 (0,0)):=Cl (Cl q4 0 (vI 2)) 3 (vI tn);have fs:Fr [T3+1] x5 (((x5.setCell ⟨T3+1,0,none⟩ (vI 2)).setCell ⟨T3+1,3,none⟩ (vI tn)).drew):=(((Fr.refl [T3+1] x5).setCell (p:=⟨T3+1,0,none⟩) (.inl sM) _).setCell (p:=⟨T3+1,3,none⟩) (.inl sM) _).drew;have kqq324:=@Hz _ @nn605;exact qq324):p:=h
theorem nn453(h:p:=by
 go_region_held3 (fun w'=>w'.cell? ⟨T3,2,none⟩=some (vS tt)) (go_keep) (fail)
 have q6:(((x5.setCell ⟨T3+1,0,none⟩ (vI 6)).setCell ⟨T3+1,2,none⟩ (vS tt)).drew).heap[T3+1]?=some (.cells #[vI 6,vI ta,vS tt,vI 0,vE,vZ,vZ,vZ] 27 (0,0)):=Cl (Cl q4 0 (vI 6)) 2 (vS tt);have fs:Fr [T3+1] x5 (((x5.setCell ⟨T3+1,0,none⟩ (vI 6)).setCell ⟨T3+1,2,none⟩ (vS tt)).drew):=(((Fr.refl [T3+1] x5).setCell (p:=⟨T3+1,0,none⟩) (.inl sM) _).setCell (p:=⟨T3+1,2,none⟩) (.inl sM) _).drew;have kqq324:=@Hz _ @nn604;exact qq324):p:=h
theorem nn454(h:p:=by
 go_region_held3 (fun w'=>w'.cell? ⟨T3,2,none⟩=some (vS tt)) (go_keep) (fail)
 have q6:(((x5.setCell ⟨T3+1,0,none⟩ (vI 1)).setCell ⟨T3+1,2,none⟩ (vS tt)).drew).heap[T3+1]?=some (.cells #[vI 1,vI ta,vS tt,vI 0,vE,vZ,vZ,vZ] 27 (0,0)):=Cl (Cl q4 0 (vI 1)) 2 (vS tt);have fs:Fr [T3+1] x5 (((x5.setCell ⟨T3+1,0,none⟩ (vI 1)).setCell ⟨T3+1,2,none⟩ (vS tt)).drew):=(((Fr.refl [T3+1] x5).setCell (p:=⟨T3+1,0,none⟩) (.inl sM) _).setCell (p:=⟨T3+1,2,none⟩) (.inl sM) _).drew;have kqq324:=@Hz _ @nn603;exact qq324):p:=h
theorem nn603(h:p:=by
 generalize ((x5.setCell ⟨T3+1,0,none⟩ (vI 1)).setCell ⟨T3+1,2,none⟩ (vS tt)).drew=x6 at *
 obtain⟨⟨l0,l1,l2,l3,l4,l5,l6,l7⟩,_⟩:=Ac q6;have HG:=Hz (Aq g0 (vI 1) (vI ta) (vS tt) (vI 0) (vE) (vZ) (vZ) (vZ));have HF:=Hz ((F6).step (Aj x6 B (vI 1) (vI ta) (vS tt) (vI 0) (vE) (vZ) (vZ) (vZ)) (fun x hx => .inr (by simp at hx;omega)));have HP:=Hz ((h6).frL (Aj x6 B (vI 1) (vI ta) (vS tt) (vI 0) (vE) (vZ) (vZ) (vZ)) (by simpa using nP) (by simpa using ng));have HX:Hid (Ak (st8 x6 B (vI 1) (vI ta) (vS tt) (vI 0) (vE) (vZ) (vZ) (vZ)) (fun b=>B≤b) (.mk 1 ta tt 0 [] [] [] []) [vI 1,vI ta,vS tt,vI 0,vE,vZ,vZ,vZ]):=Hz (((Ak.leaf x6 (fun b=>B<b) 1 ta tt 0 [])).keep (Sh.of_fr (Aj x6 B (vI 1) (vI ta) (vS tt) (vI 0) (vE) (vZ) (vZ) (vZ)) (fun b hb hlt=>⟨oM,by simp;omega⟩)));have kqq120:=@Hz _ @nn322;exact qq120):p:=h
theorem nn604(h:p:=by
 generalize ((x5.setCell ⟨T3+1,0,none⟩ (vI 6)).setCell ⟨T3+1,2,none⟩ (vS tt)).drew=x6 at *
 obtain⟨⟨l0,l1,l2,l3,l4,l5,l6,l7⟩,_⟩:=Ac q6;have HG:=Hz (Aq g0 (vI 6) (vI ta) (vS tt) (vI 0) (vE) (vZ) (vZ) (vZ));have HF:=Hz ((F6).step (Aj x6 B (vI 6) (vI ta) (vS tt) (vI 0) (vE) (vZ) (vZ) (vZ)) (fun x hx => .inr (by simp at hx;omega)));have HP:=Hz ((h6).frL (Aj x6 B (vI 6) (vI ta) (vS tt) (vI 0) (vE) (vZ) (vZ) (vZ)) (by simpa using nP) (by simpa using ng));have HX:Hid (Ak (st8 x6 B (vI 6) (vI ta) (vS tt) (vI 0) (vE) (vZ) (vZ) (vZ)) (fun b=>B≤b) (.mk 6 ta tt 0 [] [] [] []) [vI 6,vI ta,vS tt,vI 0,vE,vZ,vZ,vZ]):=Hz (((Ak.leaf x6 (fun b=>B<b) 6 ta tt 0 [])).keep (Sh.of_fr (Aj x6 B (vI 6) (vI ta) (vS tt) (vI 0) (vE) (vZ) (vZ) (vZ)) (fun b hb hlt=>⟨oM,by simp;omega⟩)));have kqq120:=@Hz _ @nn321;exact qq120):p:=h
theorem nn605(h:p:=by
 generalize ((x5.setCell ⟨T3+1,0,none⟩ (vI 2)).setCell ⟨T3+1,3,none⟩ (vI tn)).drew=x6 at *
 obtain⟨⟨l0,l1,l2,l3,l4,l5,l6,l7⟩,_⟩:=Ac q6;have HG:=Hz (Aq g0 (vI 2) (vI ta) (vE) (vI tn) (vE) (vZ) (vZ) (vZ));have HF:=Hz ((F6).step (Aj x6 B (vI 2) (vI ta) (vE) (vI tn) (vE) (vZ) (vZ) (vZ)) (fun x hx => .inr (by simp at hx;omega)));have HP:=Hz ((h6).frL (Aj x6 B (vI 2) (vI ta) (vE) (vI tn) (vE) (vZ) (vZ) (vZ)) (by simpa using nP) (by simpa using ng));have HX:Hid (Ak (st8 x6 B (vI 2) (vI ta) (vE) (vI tn) (vE) (vZ) (vZ) (vZ)) (fun b=>B≤b) (.mk 2 ta [] tn [] [] [] []) [vI 2,vI ta,vE,vI tn,vE,vZ,vZ,vZ]):=Hz (((Ak.leaf x6 (fun b=>B<b) 2 ta [] tn [])).keep (Sh.of_fr (Aj x6 B (vI 2) (vI ta) (vE) (vI tn) (vE) (vZ) (vZ) (vZ)) (fun b hb hlt=>⟨oM,by simp;omega⟩)));have kqq120:=@Hz _ @nn320;exact qq120):p:=h
theorem nn606(h:p:=by
 generalize ((x5.setCell ⟨T3+1,0,none⟩ (vI 3)).setCell ⟨T3+1,4,none⟩ (vS tt)).drew=x6 at *
 obtain⟨⟨l0,l1,l2,l3,l4,l5,l6,l7⟩,_⟩:=Ac q6;have HG:=Hz (Aq g0 (vI 3) (vI ta) (vE) (vI 0) (vS tt) (vZ) (vZ) (vZ));have HF:=Hz ((F6).step (Aj x6 B (vI 3) (vI ta) (vE) (vI 0) (vS tt) (vZ) (vZ) (vZ)) (fun x hx => .inr (by simp at hx;omega)));have HP:=Hz ((h6).frL (Aj x6 B (vI 3) (vI ta) (vE) (vI 0) (vS tt) (vZ) (vZ) (vZ)) (by simpa using nP) (by simpa using ng));have HX:Hid (Ak (st8 x6 B (vI 3) (vI ta) (vE) (vI 0) (vS tt) (vZ) (vZ) (vZ)) (fun b=>B≤b) (.mk 3 ta [] 0 tt [] [] []) [vI 3,vI ta,vE,vI 0,vS tt,vZ,vZ,vZ]):=Hz (((Ak.leaf x6 (fun b=>B<b) 3 ta [] 0 tt)).keep (Sh.of_fr (Aj x6 B (vI 3) (vI ta) (vE) (vI 0) (vS tt) (vZ) (vZ) (vZ)) (fun b hb hlt=>⟨oM,by simp;omega⟩)));have kqq120:=@Hz _ @nn319;exact qq120):p:=h
theorem nn634(h:p:=by
 generalize (x3.alloc (.cells #[vI tk,vI ta,vS tt,vI tn] 52)).alloc (.cells #[vI 0,vI ta,vE,vI 0,vE,vZ,vZ,vZ] 27)=x5 at *
 have kqq236:=@Hz _ @nn449;exact qq236):p:=h
theorem nn635(h:p:=by
 generalize (x3.alloc (.cells #[vI tk,vI ta,.string ⟨[123].toArray⟩,vI tn] 52)).alloc (.cells #[vI 0,vI ta,vE,vI 0,vE,vZ,vZ,vZ] 27)=x5 at *
 have kqq236:=@Hz _ @nn450;exact qq236):p:=h
theorem nn636(h:p:=by
 generalize (x3.alloc (.cells #[vI 5,vI ta,vS tt,vI tn] 52)).alloc (.cells #[vI 0,vI ta,vE,vI 0,vE,vZ,vZ,vZ] 27)=x5 at *
 have kqq236:=@Hz _ @nn451;exact qq236):p:=h
theorem nn637(h:p:=by
 generalize (x3.alloc (.cells #[vI 4,vI ta,vS tt,vI tn] 52)).alloc (.cells #[vI 0,vI ta,vE,vI 0,vE,vZ,vZ,vZ] 27)=x5 at *
 have kqq236:=@Hz _ @nn452;exact qq236):p:=h
theorem nn638(h:p:=by
 generalize (x3.alloc (.cells #[vI 2,vI ta,vS tt,vI tn] 52)).alloc (.cells #[vI 0,vI ta,vE,vI 0,vE,vZ,vZ,vZ] 27)=x5 at *
 have kqq236:=@Hz _ @nn453;exact qq236):p:=h
theorem nn639(h:p:=by
 generalize (x3.alloc (.cells #[vI 1,vI ta,vS tt,vI tn] 52)).alloc (.cells #[vI 0,vI ta,vE,vI 0,vE,vZ,vZ,vZ] 27)=x5 at *
 have kqq236:=@Hz _ @nn454;exact qq236):p:=h
theorem nn706(h:p:=by
 have kqq91:=@Hz _ @nn253;exact qq91):p:=h
theorem atom_step(ts:List Tok)(hE:Cx ts)(N:Nat)(ih:Hi ts N)(ihB:GB ts N):GE ts (N+1) 3 .atom 109:=by
 have IHB:=Hz ihB;clear ihB;intro P g c st w h hm;have kqq68:=@Hz _ @nn188;exact qq68
theorem nn138(h:p:=by
 refine bodyPost_ret (v:=.agg #[vI k2,vI a2,vS nm2,vI n2,vS s2,.slice A52 n52 c52,.slice A62 n62 c62]) ?_ rfl ?_
 ·exact qq296
 ·exact⟨_,_,_,_,_,_,_,_,_,_,_,_,_,_,rfl,by rw[hB];exact HX.out,.look HT.out (by rw[HOK.out,HK.out];exact .callP hr2 .retP),HP.out,HF.out⟩):p:=h
theorem nn139(h:p:=by
 refine bodyPost_ret (v:=.agg #[vI k2,vI a2,vS nm2,vI n2,vS s2,.slice A52 n52 c52,.slice A62 n62 c62]) ?_ rfl ?_
 ·exact qq296
 ·exact⟨_,_,_,_,_,_,_,_,_,_,_,_,_,_,rfl,by rw[hB];exact HX.out,.look HT.out (by rw[HOK.out];exact .callP hr2 .retP),HP.out,HF.out⟩):p:=h
theorem nn156(h:p:=by
 have HT:=Hz ht
 cases hok:st.ok with
 | false =>
  rw[hok] at p2;have HOK:=Hz hok;clear hok;go_wp2_with fail;clear p0 p1 p2;have kqq89:=@Hz _ @nn248
  exact qq89
 | true =>
  rw[hok] at p2;have HOK:=Hz hok
  cases hk:(t.k==3)with
  | false =>
   have HK:=Hz hk;clear hok;go_wp2_with fail;clear p0 p1 p2 hk;have kqq89:=@Hz _ @nn247
   exact qq89
  | true =>
   have HK:=Hz hk;have hk0:t.k≠0:=by have:=beq_iff_eq.1 hk;omega
   have cx:=fun w h=>Hz (Et P g c ts st t ht hok hk0 w h HE.out)
   clear hok hk0;go_wp2_with fail;clear p0 p1 p2 hk;have kqq108:=@Hz _ @nn290;exact qq108):p:=h
theorem nn247(h:p:=by
 have kqq43:=@Hz _ @nn138;exact qq43):p:=h
theorem nn248(h:p:=by
 have kqq43:=@Hz _ @nn139;exact qq43):p:=h
theorem nn290(h:p:=by
 have cS:=fun W hW=>Hz (IHP.out P g c ⟨st.i+1,st.ok⟩ W hW (by have:=HN.out;have:=h5.inb;simp only at this ⊢;omega))
 obtain⟨m0,m1,m2,m3,_⟩:=Ar q3;have n3B:¬ T3=B:=by omega
 have nB3:¬ B=T3:=by omega
 clear cx ht;go_wp2_with fail
 go_region_held3 (fun w'=>w'.cell? ⟨T3,1,none⟩=some (vI t.at')∧w'.cell? ⟨T3,2,none⟩=some (.string ⟨t.text.toArray⟩)) (first|go_keep|exact⟨M6.2.1,M6.2.2.1⟩) (((with_reducible refine(cS _ (h5.fr (Fr.refl [] x5).drew)).out.mono ?_);rintro e x6 ⟨k2,a2,nm2,n2,s2,ls2,args2,A52,n52,c52,A62,n62,c62,st2,rfl,hx2,hr2,hst2,f6⟩;have Q6:=f6.keep (w:=x5.drew) q3 sO;have hT6:=Aa Q6;have M6:=Ar Q6;have G6:=f6.keep (w:=x5.drew) g0 (by simpa using nB);have hB6:=Aa G6;obtain⟨⟨u0,u1,u2,u3,u4,u5,u6⟩,z0,z1,z2,z3,z4,z5,z6⟩:=Ao G6))
 clear m0 m1 m2 m3 M6;have f6:Fr [P] x5 x6:=((Fr.refl [P] x5).drew).trans f6;clear u0 u1 u2 u3 u4 u5 u6 z0 z1 z2 z3 z4 z5 z6;have kqq323:=@Hz _ @nn600;exact qq323):p:=h
theorem nn600(h:p:=by
 have HG:=Hz (Dm G6 (vI 8) (vI t.at') (.string ⟨t.text.toArray⟩) (vI 0) (vE) (vZ) (.slice (some ⟨x6.heap.size,0,none⟩) 1 1));have HF:=Hz ((F5.trans f6).step (Ce x6 B (vI 8) (vI t.at') (.string ⟨t.text.toArray⟩) (vI 0) (vE) (vZ) (.slice (some ⟨x6.heap.size,0,none⟩) 1 1)) (fun x hx => .inr (by simp at hx;omega)));have HP:=Hz ((hst2).frL (Ce x6 B (vI 8) (vI t.at') (.string ⟨t.text.toArray⟩) (vI 0) (vE) (vZ) (.slice (some ⟨x6.heap.size,0,none⟩) 1 1)) (by simpa using nP) (by simpa using ng));have HS:=Hz (st7_size x6 B (vI 8) (vI t.at') (.string ⟨t.text.toArray⟩) (vI 0) (vE) (vZ) (.slice (some ⟨x6.heap.size,0,none⟩) 1 1));have HX:Hid (Bw (st7 x6 B (vI 8) (vI t.at') (.string ⟨t.text.toArray⟩) (vI 0) (vE) (vZ) (.slice (some ⟨x6.heap.size,0,none⟩) 1 1)) (fun b=>B≤b) (.mk k2 a2 nm2 n2 s2 ls2 args2) [vI k2,vI a2,vS nm2,vI n2,vS s2,.slice A52 n52 c52,.slice A62 n62 c62]):=Hz ((hx2).keep (Sh.of_fr (Ce x6 B (vI 8) (vI t.at') (.string ⟨t.text.toArray⟩) (vI 0) (vE) (vZ) (.slice (some ⟨x6.heap.size,0,none⟩) 1 1)) (fun b hb hlt=>⟨oM,by simp;omega⟩)));unfold st7 at HG HF HP HS HX;generalize ((((((x6.setCell ⟨B,0,none⟩ (vI 8)).setCell ⟨B,1,none⟩ (vI t.at')).setCell ⟨B,2,none⟩ (.string ⟨t.text.toArray⟩)).setCell ⟨B,3,none⟩ (vI 0)).setCell ⟨B,4,none⟩ (vE)).setCell ⟨B,5,none⟩ (vZ)).setCell ⟨B,6,none⟩ (.slice (some ⟨x6.heap.size,0,none⟩) 1 1)=Z at HG HF HP HS HX ⊢;obtain⟨⟨d0,d1,d2,d3,d4,d5,d6⟩,_⟩:=Ao (Ae HG.out (.cells #[vI k2,vI a2,vS nm2,vI n2,vS s2,.slice A52 n52 c52,.slice A62 n62 c62] 123));have hBZ:B≤Z.heap.size:=by have:=Aa HG.out;omega
 have row:=An.lit Jh (T:=123) (size:=7) HX.out rfl (ok:=fun b=>B≤b) hBZ;rw[HS.out] at row;have hxx:=Bw.of_rows (k:=8) (a:=t.at') (nm:=t.text) (n:=0) (s:=[]) (c5:=fun _=>[]) An.nil_ row;go_wp2_with fail;refine bodyPost_ret (v:=.agg #[vI 8,vI t.at',.string ⟨t.text.toArray⟩,vI 0,vE,vZ,.slice (some ⟨x6.heap.size,0,none⟩) 1 1]) ?_ rfl ?_
 ·exact qq296
 ·exact⟨_,_,_,_,_,_,_,_,_,_,_,_,_,_,rfl,by rw[hB];exact hxx,.look HT.out (by rw[HOK.out,HK.out];exact .adv (.callP hr2 .retP)),HP.out.fr ((Fr.refl [] Z).alloc _),HF.out.alloc _⟩):p:=h
theorem nn647(h:p:=by
 go_enter func108,ntmps108;go_wp2_with fail;have f0:Fr [] w (w.alloc (.cells #[vI 0,vI 0,vE,vI 0,vE,vZ,vZ] 123)):=(Fr.refl [] w).alloc _;have g0:=Ag w (.cells #[vI 0,vI 0,vE,vI 0,vE,vZ,vZ] 123)
 generalize w.alloc (.cells #[vI 0,vI 0,vE,vI 0,vE,vZ,vZ] 123)=w1 at *
 generalize hB:w.heap.size=B at *
 have hB1:=Aa g0;have nP:¬ P=B:=by omega
 have nB:¬ B=P:=by omega
 have ng:¬ g=B:=by omega
 obtain⟨t,ht⟩:=Bn hin;have kqq52:=@Hz _ @nn156;exact qq52):p:=h
theorem pat_step(ts:List Tok)(hE:Cx ts)(N:Nat)(ihP:GP ts N 1 .patom 138):GP ts (N+1) 2 .pat 108:=by
 intro P g c st w h hm;have IHP:=Hz ihP;clear ihP;have kqq340:=@Hz _ @nn647;exact qq340
end
theorem Fr.then_below{w0 wr w':World}(h:Fr [] w0 wr)(hb:Below w0.heap.size wr w'):Fr [] w0 w' :=
 ⟨hb.os.trans h.os,hb.tape.trans h.tape,hb.output.trans h.output,Nat.le_trans h.size hb.size,fun k hk hn=>(hb.block k hk).trans (h.block k hk hn)⟩
theorem Ze:prog.cellsOf 5=1:=by kernel_rfl
theorem WB.string{w0 wr:World}{P:Nat}{rs:List (Nat×Obj)}{l:LB}(h:WB w0 P rs l wr)(h0:l≠[]):
  Calls prog 78 #[.pointer (some ⟨P,0,none⟩)] wr fun e w'=>e = .returned (vS l)∧Fr [] w0 w':=by
 obtain⟨own,⟨p,v,hp,hbk,hown,rfl⟩,hg,hbw,hfr,_⟩:=h;have hl0:l.length≠0:=by simpa using h0
 obtain⟨g,cap,cur,rfl,hbg,hg2,hnc,hcm,hcs,htake⟩:∃ g cap cur,v = .slice (some ⟨g,0,none⟩) l.length cap∧0≤g∧wr.heap[g]?=some (.cells cur 5 (0,0))∧l.length≤cap∧cap≤maxLen∧cur.size=cap * 1∧cur.toList.take (l.length * 1)=Lib.byteCells l:=by
  rcases hown.2 with⟨_,hz⟩| ⟨g,cap,cur,hv,r⟩
  ·exact absurd hz hl0
  ·exact⟨g,cap,cur,hv,r⟩
 have hgg:=hg g rfl
 have c1:wr.drew.cell? ⟨P,1,none⟩=some (.slice (some ⟨g,0,none⟩) l.length cap):=by
  have:wr.drew.heap[P]?=some (.cells #[p,.slice (some ⟨g,0,none⟩) l.length cap] TW (0,0)):=hbk;rw[Ab this];rfl
 have hSD:(Builtin.unsafeSliceData_ #[131] 173 #[.slice (some ⟨g,0,none⟩) l.length cap]).run prog wr.drew = .ok (.pointer (some ⟨g,0,none⟩)) wr.drew:=Lib.run_unsafeSliceData_row _ _ _ _ _ _ oM
 have hUS:(Builtin.unsafeString_ #[173,3] 9 #[.pointer (some ⟨g,0,none⟩),vI l.length]).run prog wr.drew = .ok (vS l) (wr.drew.freeze ⟨g,0,none⟩ l.length):=by
  refine Lib.run_unsafeString_row wr.drew 173 3 9 5 underlying173 Ze g cur.size (by have hg':wr.drew.heap[g]?=some (.cells cur 5 (0,0)):=hg2;simp[World.shape?,hg']) l h0 oM (by unfold maxLen at hcm;omega) ?_;intro j x hx;exact hown.cells (g:=g) rfl j (.int .u8 x.toNat) (by simp[Lib.byteCells,hx])
 have hmx:prog.follows Departure.mixedOrders=true:=by kernel_rfl
 go_enter func78,ntmps78
 go_wp2
 go_region_o
 all_goals(go_wp2;go_ret;exact⟨rfl,hfr.then_below (Lib.below_freeze (Below.drew (Below.refl w0.heap.size wr)) (p:=⟨g,0,none⟩) hgg _)⟩)
theorem WB.len{w0 wr:World}{P:Nat}{rs:List (Nat×Obj)}{l:LB}(h:WB w0 P rs l wr):
  Calls prog 77 #[.pointer (some ⟨P,0,none⟩)] wr fun e w'=>e = .returned (vI l.length)∧w'=wr:=by
 obtain⟨own,⟨p,v,hp,hbk,hown,rfl⟩,hg,hbw,hfr,_⟩:=h
 have hv:∃ A c,v = .slice A l.length c:=by
  rcases hown.2 with⟨hv,h0⟩| ⟨g,cap,cur,hv,_⟩
  ·exact⟨_,_,by rw[hv,h0]⟩
  ·exact⟨_,_,hv⟩
 obtain⟨A,c,rfl⟩:=hv;have c1:wr.cell? ⟨P,1,none⟩=some (.slice A l.length c):=by rw[Ab hbk];rfl
 go_enter func77,ntmps77
 go_wp2
 go_ret;exact qq288
end Go.Proofs.YtlafbbnikgcdlaaGreatDoor
