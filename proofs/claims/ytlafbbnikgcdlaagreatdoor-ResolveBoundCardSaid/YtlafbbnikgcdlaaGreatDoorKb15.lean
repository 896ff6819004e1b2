/- A part of the proof: Ar, Br1, Br2, Br5, Br, Mk2. -/
import Derived.Deep.DrawnRows
import Derived.Test.YtlafbbnikgcdlaaGreatDoorKb13
import Derived.Test.YtlafbbnikgcdlaaGreatDoorKb14
namespace Go.Proofs.YtlafbbnikgcdlaaGreatDoor
open Go.RowKit
open _root_.Go.Proofs.Tryz
set_option linter.all false
set_option maxHeartbeats 16000000
set_option maxRecDepth 100000
variable{p:Prop}
section
attribute [local go_sem ↓] Go.wp_at_zero Go.wp_at_succ
def Vu(x:World)(B:Nat)(a0 a1 a2 a3 a4 a5 a6 a7:Value):World:=(((((((x.setCell ⟨B,7,none⟩ a0).setCell ⟨B,8,none⟩ a1).setCell ⟨B,9,none⟩ a2).setCell ⟨B,10,none⟩ a3).setCell ⟨B,11,none⟩ a4).setCell ⟨B,12,none⟩ a5).setCell ⟨B,13,none⟩ a6).setCell ⟨B,14,none⟩ a7
theorem st15_heap{x:World}{B:Nat}{T:TypeId}{p0 p1 p2 p3 p4 p5 p6 o0 o1 o2 o3 o4 o5 o6 o7:Value}(h:x.heap[B]?=some (.cells #[p0,p1,p2,p3,p4,p5,p6,o0,o1,o2,o3,o4,o5,o6,o7] T (0,0)))(a0 a1 a2 a3 a4 a5 a6 a7:Value):(Vu x B a0 a1 a2 a3 a4 a5 a6 a7).heap[B]?=some (.cells #[p0,p1,p2,p3,p4,p5,p6,a0,a1,a2,a3,a4,a5,a6,a7] T (0,0)):=by
 simp[Vu,World.setCell,Array.getElem?_modify,h]
theorem st15_fr(x:World)(B:Nat)(a0 a1 a2 a3 a4 a5 a6 a7:Value):Fr [B] x (Vu x B a0 a1 a2 a3 a4 a5 a6 a7):=by
 unfold Vu;exact((((((((Fr.refl [B] x).setCell (p:=⟨B,7,none⟩) (.inl sM) a0).setCell (p:=⟨B,8,none⟩) (.inl sM) a1).setCell (p:=⟨B,9,none⟩) (.inl sM) a2).setCell (p:=⟨B,10,none⟩) (.inl sM) a3).setCell (p:=⟨B,11,none⟩) (.inl sM) a4).setCell (p:=⟨B,12,none⟩) (.inl sM) a5).setCell (p:=⟨B,13,none⟩) (.inl sM) a6).setCell (p:=⟨B,14,none⟩) (.inl sM) a7
theorem st15_size(x:World)(B:Nat)(a0 a1 a2 a3 a4 a5 a6 a7:Value):(Vu x B a0 a1 a2 a3 a4 a5 a6 a7).heap.size=x.heap.size:=by simp[Vu,World.setCell]
def LKa(k a:Int)(x:Ad)(acc:List (Al×Ad)):Cmd:=.look fun _ ok=>if ok=true then .callE (.armsL k a x acc) .retE else Ch [101,110,100] (.retE (.mk k a [] 0 [] [] [x] acc))
def ENDa(k a:Int)(x:Ad)(acc:List (Al×Ad)):Cmd:=Ch [101,110,100] (.retE (.mk k a [] 0 [] [] [x] acc))
theorem LKa_no{ts:List Tok}{k a:Int}{x:Ad}{acc:List (Al×Ad)}{st st':St}{r:Rs}{t:Tok}(ht:ts[st.i]?=some t)(hok:st.ok=false)(h:Run ts (ENDa k a x acc) st r st'):Run ts (LKa k a x acc) st r st' :=
 .look ht (by rw[hok,if_neg dC];exact h)
theorem Re{ts:List Tok}{k a:Int}{x:Ad}{acc:List (Al×Ad)}{st0 st1 st3:St}{p:Al}{y:Ad}{u u1 v:Tok}(hu:ts[st0.i]?=some u)(hok:st0.ok=true)(hp:Run ts (Dd .pat) st0 (.p p) st1)(hu1:ts[st1.i]?=some u1)
  (hs:Run ts (body .seq) (Cf u1 st1 [45,62]) (.e y) st3) (hv:ts[st3.i]?=some v) {b:Bool} (hb:isB v st3.ok [[124]]=b) {z:Ad} {st':St}
  (h:Run ts (if b=true then LKa k a x (acc++[(p,y)])else ENDa k a x (acc++[(p,y)])) (if b=true then ⟨st3.i+1,st3.ok⟩else st3) (.e z) st'):Run ts (LKa k a x acc) st0 (.e z) st':=by
 refine .look hu ?_;rw[hok,if_pos rfl];refine .callE (.callP hp (.must_ hu1 (.callE hs ?_))) .retE;exact qq93
theorem Y9{ts:List Tok}{k a:Int}{x:Ad}{st st1:St}{u:Tok}(hs:Run ts (body .seq) st (.e x) st1)(hu:ts[st1.i]?=some u){z:Ad}{st':St}(h:Run ts (LKa k a x []) (Cf u st1 [119,105,116,104]) (.e z) st'):Run ts (body (.arms k a)) st (.e z) st' :=
 .callE hs (.must_ hu h)
theorem nn124(h:p:=by
 refine bodyPost_ret (v:=.agg #[vI k,vI a,vE,vI 0,vE,vZ,.slice (some ⟨gz,0,none⟩) 1 1,.slice A7 n7 cc7]) ?_ rfl ?_
 ·simp[results,Tryz.f70,go_sem,d0,d1,d2,d3,d4,d5,d6,d7]
 ·exact⟨_,_,_,_,_,_,_,_,_,_,_,_,_,_,_,_,_,_,rfl,hxx.keep (Sh.of_fr (Fr.refl [] Z) (fun b hb hlt=>⟨oM,fun x=>by cases x⟩)),HR.out _ _ (by(first|rw[if_pos rfl] | rw[if_pos trivial]);exact LKa_no hu HOK.out (.must_ hu .retE)),HP.out,HF.out⟩):p:=h
theorem nn125(h:p:=by
 refine bodyPost_ret (v:=.agg #[vI k,vI a,vE,vI 0,vE,vZ,.slice (some ⟨gz,0,none⟩) 1 1,.slice A7 n7 cc7]) ?_ rfl ?_
 ·simp[results,Tryz.f70,go_sem,d0,d1,d2,d3,d4,d5,d6,d7]
 ·exact qq165):p:=h
theorem nn422(h:p:=by
 clear fm;have hle1:=hr1.le;have hle2:=D1 u0 st1 [119,105,116,104];obtain⟨i0,hi,hz0,hz1,hz2⟩:=info_parts infoArm;have HI:=Hz hi;have HZ0:=Hz hz0;have HZ1:=Hz hz1;have HZ2:=Hz hz2;clear hi hz0 hz1 hz2;have HR0:Hid (∀ x' st',Run ts (if true=true then LKa k a (.mk k1 a1 nm1 n1 s1 ls1 args1 arms1) [] else ENDa k a (.mk k1 a1 nm1 n1 s1 ls1 args1 arms1) []) (Cf u0 st1 [119,105,116,104]) (.e x') st'→Run ts (body (.arms k a)) st (.e x') st'):=Hz (fun x' st' h=>Y9 hr1 hu0 h);have row0:Wc y0 (fun b=>(B<b∧¬ b=T∧¬ b=P)∧(Value.slice none 0 0).ownBlock≠some b) (.slice (some ⟨gz,0,none⟩) 1 1) [(.mk k1 a1 nm1 n1 s1 ls1 args1 arms1)] (fun _=>[vI k1,vI a1,vS nm1,vI n1,vS s1,.slice A51 n51 c51,.slice A61 n61 c61,.slice A71 n71 c71]):=An.keep As row (Sh.of_fr (Fr.refl [] y0) (fun b hb hlt=>⟨⟨hb,by simp[Value.ownBlock]⟩,fun x=>by cases x⟩));clear row hr1 hu0;go_wp2_with fail
 go_loopw [5] (fun mv wr=>∃ (b:Bool) (acc:List (Al×Ad)) (v7:Value) (c7:Nat→List Value) (st0:St),mv = .bool b∧Fr [P] w wr∧wr.heap[B]?=some (.cells #[vI 0,vI 0,vE,vI 0,vE,vZ,vZ,vZ] 27 (0,0))∧wr.heap[T]?=some (.cells #[vI k,vI a,vE,vI 0,vE,vZ,.slice (some ⟨gz,0,none⟩) 1 1,v7] 27 (0,0))∧Wc wr (fun b=>(B<b∧¬ b=T∧¬ b=P)∧v7.ownBlock≠some b) (.slice (some ⟨gz,0,none⟩) 1 1) [(.mk k1 a1 nm1 n1 s1 ls1 args1 arms1)] (fun _=>[vI k1,vI a1,vS nm1,vI n1,vS s1,.slice A51 n51 c51,.slice A61 n61 c61,.slice A71 n71 c71])∧RowA wr (fun b=>B<b∧¬ b=T∧¬ b=P) v7 acc c7∧PSt P g c ts st0 wr∧st.i≤st0.i∧acc.length≤st0.i+(if b=true then 0 else 1)∧Hid (∀ x' st',Run ts (if b=true then LKa k a (.mk k1 a1 nm1 n1 s1 ls1 args1 arms1) acc else ENDa k a (.mk k1 a1 nm1 n1 s1 ls1 args1 arms1) acc) st0 (.e x') st'→Run ts (body (.arms k a)) st (.e x') st')) (fun mv wr=>2 *(ts.length-plI wr P)+(match mv with | .bool true=>1|_=>0))
 case atStart=>exact⟨true,[],vZ,fun _=>[],_,rfl,F,g0,q0,row0,An.nil_,h0,oM,sM,HR0⟩
 case round =>
  obtain⟨b,acc,v7,c7,st0,rfl,F,g0,q0,rowE,rowA,h0,hle0,hacc,HR⟩:=hrel;clear HR0 row0
  cases b with
  | false =>
   go_wp2_with fail;have kqq37:=@Hz _ @nn125
   exact qq37
  | true =>
   obtain⟨p0,p1,p2,_⟩:=Fp h0.blk;have hPw:=Aa h0.blk
   cases hok:st0.ok with
   | false =>
    rw[hok] at p2;have HOK:=Hz hok;clear hok;go_wp2_with fail;clear p0 p1 p2;have kqq37:=@Hz _ @nn124
    exact qq37
   | true =>
    rw[hok] at p2;have HOK:=Hz hok;clear hok;go_wp2_with fail;clear p0 p1 p2;have HR1:=HR;clear HR;obtain⟨u,hu⟩:=Bn h0.inb;have HPL:=Hz h0.pl;have HACC:=Hz hacc;have HLE0:=Hz hle0;clear hacc hle0;refine(IHP.out P g c st0 wr h0 (by have:=HN.out;have:=HLE0.out;omega)).mono ?_;rintro e x5 ⟨k2,a2,nm2,n2,s2,ls2,args2,A52,n52,c52,A62,n62,c62,st2,rfl,hx2,hr2,hst2,f5⟩;have hTB5:=Aa g0;have hTT5:=Aa q0;go_wp2_with fail;have qA:=Ag x5 (.cells #[vI k2,vI a2,vS nm2,vI n2,vS s2,.slice A52 n52 c52,.slice A62 n62 c62,vI 0,vI 0,vE,vI 0,vE,vZ,vZ,vZ] 125);have fb:Fr [] x5 (x5.alloc (.cells #[vI k2,vI a2,vS nm2,vI n2,vS s2,.slice A52 n52 c52,.slice A62 n62 c62,vI 0,vI 0,vE,vI 0,vE,vZ,vZ,vZ] 125)):=(Fr.refl [] x5).alloc _;have h5:=hst2.fr fb;have f6:=f5.trans0 fb;have hs5:=f5.size;have hx2:=hx2.keep (ok':=fun b=>wr.heap.size≤b∧¬ b=x5.heap.size) (Sh.of_fr fb (fun b hb hlt=>⟨⟨hb,oM⟩,fun x=>by cases x⟩))
    generalize x5.alloc (.cells #[vI k2,vI a2,vS nm2,vI n2,vS s2,.slice A52 n52 c52,.slice A62 n62 c62,vI 0,vI 0,vE,vI 0,vE,vZ,vZ,vZ] 125)=x6 at *
    have hTA:wr.heap.size≤x5.heap.size:=hs5;have hTA2:=Aa qA
    generalize x5.heap.size=TA at *
    clear fb f5 hs5 hst2;obtain⟨w2,hw2⟩:=Bn h5.inb;refine(Cp [45,62] P g c ts st2 w2 hw2 x6 h5 HE.out).mono ?_;rintro e x7 ⟨rfl,h7,f7⟩;have qA:=f7.keep qA sO;have f7a:=f6.trans f7;have hx2:=hx2.keep (ok':=fun b=>wr.heap.size≤b∧¬ b=TA) (Sh.of_fr f7 (fun b hb hlt=>⟨hb,by simp;omega⟩));clear f6 f7 h5;go_wp2_with fail;have hTA7:=Aa qA;have hle3:=hr2.le;have hle4:=D1 w2 st2 [45,62];refine(IH.out.seq P g c (Cf w2 st2 [45,62]) x7 h7 (by have:=HN.out;have:=h7.inb;have:=HLE0.out;omega)).mono ?_;rintro e x8 ⟨k3,a3,nm3,n3,s3,ls3,args3,arms3,A53,n53,c53,A63,n63,c63,A73,n73,c73,st4,rfl,hx3,hr3,hst4,f8⟩;have qA:=f8.keep qA sO;have f8a:=f7a.trans f8;have hs7:=f7a.size;have hx2:=hx2.keep (ok':=fun b=>wr.heap.size≤b∧¬ b=TA) (Sh.of_fr f8 (fun b hb hlt=>⟨hb,by simp;omega⟩));have hx3:=hx3.keep (ok':=fun b=>wr.heap.size≤b∧¬ b=TA) (Sh.of_fr (Fr.refl [] x8) (fun b hb hlt=>⟨by have:x7.heap.size≤b:=hb;exact⟨oM,oM⟩,fun x=>by cases x⟩));have fs:=st15_fr x8 TA (vI k3) (vI a3) (vS nm3) (vI n3) (vS s3) (.slice A53 n53 c53) (.slice A63 n63 c63) (.slice A73 n73 c73);have hx2:=hx2.keep (ok':=fun b=>wr.heap.size≤b) (Sh.of_fr fs (fun b hb hlt=>⟨hb.1,by simp;exact hb.2⟩));have hx3:=hx3.keep (ok':=fun b=>wr.heap.size≤b) (Sh.of_fr fs (fun b hb hlt=>⟨hb.1,by simp;exact hb.2⟩));have hxa:=ArmAt.mk hx2 hx3 rfl;have f9:=f8a.step fs (fun x hx => .inr (by simp at hx;omega));have h9:=hst4.frL fs sO sO;have HQA:=Hz (st15_heap qA (vI k3) (vI a3) (vS nm3) (vI n3) (vS s3) (.slice A53 n53 c53) (.slice A63 n63 c63) (.slice A73 n73 c73));have q9:=f9.keep q0 sO;have HQ9:=Hz q9;have HXA:=Hz hxa;have HF9:=Hz f9;have HH9:=Hz h9;have rowA9:=An.keep (ok':=fun b=>B<b∧¬ b=T∧¬ b=P) Kt rowA (Sh.of_fr f9 (fun b hb hlt=>⟨hb,by simp;exact hb.2.2⟩));have fC:=(Fr.refl [] (Vu x8 TA (vI k3) (vI a3) (vS nm3) (vI n3) (vS s3) (.slice A53 n53 c53) (.slice A63 n63 c63) (.slice A73 n73 c73))).alloc (.cells #[vI k2,vI a2,vS nm2,vI n2,vS s2,.slice A52 n52 c52,.slice A62 n62 c62,vI k3,vI a3,vS nm3,vI n3,vS s3,.slice A53 n53 c53,.slice A63 n63 c63,.slice A73 n73 c73] 125);have HROWB:=Hz (An.keep (ok':=fun b=>B<b∧¬ b=T∧¬ b=P) Kt rowA9 (Sh.of_fr fC (fun b hb hlt=>⟨hb,fun x=>by cases x⟩)));have hss:=st15_size x8 TA (vI k3) (vI a3) (vS nm3) (vI n3) (vS s3) (.slice A53 n53 c53) (.slice A63 n63 c63) (.slice A73 n73 c73);have hnew:=Ag (Vu x8 TA (vI k3) (vI a3) (vS nm3) (vI n3) (vS s3) (.slice A53 n53 c53) (.slice A63 n63 c63) (.slice A73 n73 c73)) (.cells #[vI k2,vI a2,vS nm2,vI n2,vS s2,.slice A52 n52 c52,.slice A62 n62 c62,vI k3,vI a3,vS nm3,vI n3,vS s3,.slice A53 n53 c53,.slice A63 n63 c63,.slice A73 n73 c73] 125);rw[hss] at hnew;have HNEW:=Hz hnew;have HQC:=Hz (Ae q9 (.cells #[vI k2,vI a2,vS nm2,vI n2,vS s2,.slice A52 n52 c52,.slice A62 n62 c62,vI k3,vI a3,vS nm3,vI n3,vS s3,.slice A53 n53 c53,.slice A63 n63 c63,.slice A73 n73 c73] 125));have HLEN:Hid (acc.length≤4097):=Hz (by have h1:=HACC.out;simp at h1;have h2:=HE.out.1;have h3:=h0.inb;omega);unfold Vu at HQA HQ9 HXA HF9 HH9 HROWB HNEW HQC;clear rowA9 fC hss hnew
    have M15:x8.cell? ⟨TA,0,none⟩=some (vI k2)∧x8.cell? ⟨TA,1,none⟩=some (vI a2)∧x8.cell? ⟨TA,2,none⟩=some (vS nm2)∧x8.cell? ⟨TA,3,none⟩=some (vI n2)∧x8.cell? ⟨TA,4,none⟩=some (vS s2)∧x8.cell? ⟨TA,5,none⟩=some (.slice A52 n52 c52)∧x8.cell? ⟨TA,6,none⟩=some (.slice A62 n62 c62)∧x8.cell? ⟨TA,7,none⟩=some (vI 0)∧x8.cell? ⟨TA,8,none⟩=some (vI 0)∧x8.cell? ⟨TA,9,none⟩=some (vE)∧x8.cell? ⟨TA,10,none⟩=some (vI 0)∧x8.cell? ⟨TA,11,none⟩=some (vE)∧x8.cell? ⟨TA,12,none⟩=some (vZ)∧x8.cell? ⟨TA,13,none⟩=some (vZ)∧x8.cell? ⟨TA,14,none⟩=some (vZ):=⟨Ab qA 0,Ab qA 1,Ab qA 2,Ab qA 3,Ab qA 4,Ab qA 5,Ab qA 6,Ab qA 7,Ab qA 8,Ab qA 9,Ab qA 10,Ab qA 11,Ab qA 12,Ab qA 13,Ab qA 14⟩
    have N15:x8.frozen? ⟨TA,7,none⟩=false∧x8.frozen? ⟨TA,8,none⟩=false∧x8.frozen? ⟨TA,9,none⟩=false∧x8.frozen? ⟨TA,10,none⟩=false∧x8.frozen? ⟨TA,11,none⟩=false∧x8.frozen? ⟨TA,12,none⟩=false∧x8.frozen? ⟨TA,13,none⟩=false∧x8.frozen? ⟨TA,14,none⟩=false:=⟨Ap qA 7,Ap qA 8,Ap qA 9,Ap qA 10,Ap qA 11,Ap qA 12,Ap qA 13,Ap qA 14⟩
    obtain⟨m0,m1,m2,m3,m4,m5,m6,m7,m8,m9,m10,m11,m12,m13,m14⟩:=M15;obtain⟨n7,n8,n9,n10,n11,n12,n13,n14⟩:=N15;have hTA8:=Aa qA;have hTT8:=Aa q9;obtain⟨⟨l0,l1,l2,l3,l4,l5,l6,l7⟩,_⟩:=Ac (f8a.keep q0 sO);have nTT:¬ T=TA:=by omega
    have nTT':¬ TA=T:=by omega
    clear hx2 hx3 hxa f9 h9 q9 fs f8 f7a hst4 h7 f8a;go_wp2_with (at_builtin;refine D2 _ rfl _ _ 25 rfl 125 i0 _ 15 232 underlying25 HI.out HZ0.out HZ1.out HZ2.out rfl dC v7 acc.length (Co c7 acc.length) rfl HROWB.out.own ⟨x8.heap.size,0,none⟩ 1 1 [vI k2,vI a2,vS nm2,vI n2,vS s2,.slice A52 n52 c52,.slice A62 n62 c62,vI k3,vI a3,vS nm3,vI n3,vS s3,.slice A53 n53 c53,.slice A63 n63 c63,.slice A73 n73 c73] rfl rfl (World.news_of_block HNEW.out) (by simp[Value.oneCell']) (by simp only[maxLen];have:=HLEN.out;omega) (by have:=HLEN.out;omega) ?_);intro v9 w9 hown9 hgrow9 hfp9;obtain⟨g9,cp9,hv9⟩:∃ g cap,v9 = .slice (some ⟨g,0,none⟩) (acc.length+1) cap:=Cd hown9
    subst hv9;clear m0 m1 m2 m3 m4 m5 m6 m7 m8 m9 m10 m11 m12 m13 m14 n7 n8 n9 n10 n11 n12 n13 n14 l0 l1 l2 l3 l4 l5 l6 l7;have hsz9:(((((((((x8.setCell ⟨TA,7,none⟩ (vI k3)).setCell ⟨TA,8,none⟩ (vI a3)).setCell ⟨TA,9,none⟩ (vS nm3)).setCell ⟨TA,10,none⟩ (vI n3)).setCell ⟨TA,11,none⟩ (vS s3)).setCell ⟨TA,12,none⟩ (.slice A53 n53 c53)).setCell ⟨TA,13,none⟩ (.slice A63 n63 c63)).setCell ⟨TA,14,none⟩ (.slice A73 n73 c73)).alloc (.cells #[vI k2,vI a2,vS nm2,vI n2,vS s2,.slice A52 n52 c52,.slice A62 n62 c62,vI k3,vI a3,vS nm3,vI n3,vS s3,.slice A53 n53 c53,.slice A63 n63 c63,.slice A73 n73 c73] 125)).heap.size=x8.heap.size+1:=by simp[World.setCell]
    have hx8s:wr.heap.size≤x8.heap.size:=by omega
    generalize (((((((x8.setCell ⟨TA,7,none⟩ (vI k3)).setCell ⟨TA,8,none⟩ (vI a3)).setCell ⟨TA,9,none⟩ (vS nm3)).setCell ⟨TA,10,none⟩ (vI n3)).setCell ⟨TA,11,none⟩ (vS s3)).setCell ⟨TA,12,none⟩ (.slice A53 n53 c53)).setCell ⟨TA,13,none⟩ (.slice A63 n63 c63)).setCell ⟨TA,14,none⟩ (.slice A73 n73 c73)=x9 at *
    rw[← hsz9] at hfp9;have Q9:=(hgrow9.block T (Aa HQC.out) (fun e=>(HROWB.out.blk T e.symm).2.1 rfl)).trans HQC.out;have hT9:=Aa Q9;obtain⟨⟨l0,l1,l2,l3,l4,l5,l6,l7⟩,z0,z1,z2,z3,z4,z5,z6,z7⟩:=Ac Q9;have AA:=Fc (fld:=7) (size:=15) Kt HF9.out HXA.out rfl HH9.out g0 q0 rowA F oM oM oM oM oM oM oM hown9 hgrow9 hfp9 (VV':=#[vI k,vI a,vE,vI 0,vE,vZ,.slice (some ⟨gz,0,none⟩) 1 1,.slice (some ⟨g9,0,none⟩) (acc.length+1) cp9]) rfl;have HAA:=Hz AA;clear AA HQ9 HXA HF9 HH9 HROWB HNEW HQC HQA hown9 hgrow9 hfp9 F g0 q0 rowA h0 Q9 qA;go_wp2_with fail;clear l0 l1 l2 l3 l4 l5 l6 l7 z0 z1 z2 z3 z4 z5 z6 z7 hT9;obtain⟨F,g0,q0,h0,rowA,hsh,hnew,hsz⟩:=HAA.out;have hv9:w9.setCell ⟨T,7,none⟩ (.slice (some ⟨g9,0,none⟩) (acc.length+1) cp9)=w9.setCell ⟨T,7,none⟩ (.slice (some ⟨g9,0,none⟩) (acc.length+1) cp9):=rfl;clear hv9 HAA
    generalize w9.setCell ⟨T,7,none⟩ (.slice (some ⟨g9,0,none⟩) (acc.length+1) cp9)=y9 at *
    have rowE:=An.keep (ok':=fun b=>(B<b∧¬ b=T∧¬ b=P)∧(Value.slice (some ⟨g9,0,none⟩) (acc.length+1) cp9).ownBlock≠some b) As rowE (fun b hb hlt=>⟨⟨hb.1,fun e=>(hnew b e).elim hb.2 (fun h=>by omega)⟩,hsh b hlt hb.1.2.1 hb.1.2.2 hb.2⟩);clear hsh hnew hsz;obtain⟨v,hv⟩:=Bn h0.inb;have hle5:=hr3.le;have hpl0:=HPL.out
    cases hb:isB v st4.ok [[124]] with
    | true =>
     refine(may_yes [124] P g c ts st4 v hv hb y9 h0 HE.out).mono ?_;rintro e y10 ⟨rfl,h0,fm⟩;have g0:=fm.keep g0 sO;have q0:=fm.keep q0 sO;have F:=F.trans fm;have rowE:=An.keep (ok':=fun b=>(B<b∧¬ b=T∧¬ b=P)∧(Value.slice (some ⟨g9,0,none⟩) (acc.length+1) cp9).ownBlock≠some b) As rowE (Sh.of_fr fm (fun b hb hlt=>⟨hb,by simp;exact hb.1.2.2⟩));have rowA:=An.keep (ok':=fun b=>B<b∧¬ b=T∧¬ b=P) Kt rowA (Sh.of_fr fm (fun b hb hlt=>⟨hb,by simp;exact hb.2.2⟩));clear fm;go_wp2_with fail
     go_roundw
     case rel=>exact⟨true,acc++[((.mk k2 a2 nm2 n2 s2 ls2 args2),(.mk k3 a3 nm3 n3 s3 ls3 args3 arms3))],_,_,_,rfl,F,g0,q0,rowE,rowA,h0,(by have:=HLE0.out;simp only at *;omega),(by have:=HACC.out;simp at this ⊢;omega),Hz (fun x' st' h=>HR1.out _ _ (by
      have hh:=Re hu HOK.out hr2 hw2 hr3 hv hb (z:=x') (st':=st') (by rw[if_pos rfl,if_pos rfl];(first|(rw[if_pos rfl] at h;exact h)| (rw[if_pos trivial] at h;exact h)))
      (first|(rw[if_pos rfl];exact hh)| (rw[if_pos trivial];exact hh))))⟩
     case measure =>
      have hin1:=h0.inb
      exact qq213
    | false =>
     refine(may_no [124] P g c ts st4 v hv hb y9 h0 HE.out).mono ?_;rintro e y10 ⟨rfl,fm⟩;have g0:=fm.keep g0 nE;have q0:=fm.keep q0 nE;have F:=F.trans0 fm;have h0:=h0.fr fm;have rowE:=An.keep (ok':=fun b=>(B<b∧¬ b=T∧¬ b=P)∧(Value.slice (some ⟨g9,0,none⟩) (acc.length+1) cp9).ownBlock≠some b) As rowE (Sh.of_fr fm (fun b hb hlt=>⟨hb,fun x=>by cases x⟩));have rowA:=An.keep (ok':=fun b=>B<b∧¬ b=T∧¬ b=P) Kt rowA (Sh.of_fr fm (fun b hb hlt=>⟨hb,fun x=>by cases x⟩));clear fm;go_wp2_with fail
     go_roundw
     case rel=>exact⟨false,acc++[((.mk k2 a2 nm2 n2 s2 ls2 args2),(.mk k3 a3 nm3 n3 s3 ls3 args3 arms3))],_,_,_,rfl,F,g0,q0,rowE,rowA,h0,(by have:=HLE0.out;omega),(by have:=HACC.out;simp at this ⊢;omega),Hz (fun x' st' h=>HR1.out _ _ (by
      have hh:=Re hu HOK.out hr2 hw2 hr3 hv hb (z:=x') (st':=st') (by rw[if_neg dC,if_neg dC];(first|(rw[if_neg dC] at h;exact h)| (rw[if_neg id] at h;exact h)))
      (first|(rw[if_pos rfl];exact hh)| (rw[if_pos trivial];exact hh))))⟩
     case measure =>
      exact qq213):p:=h
theorem nn646(h:p:=by
 go_enter func70,ntmps70;go_wp2_with fail;have f0:Fr [] w ((w.alloc (.cells #[vI k,vI a,vE,vI 0,vE,vZ,vZ,vZ] 27)).alloc (.cells #[vI 0,vI 0,vE,vI 0,vE,vZ,vZ,vZ] 27)):=((Fr.refl [] w).alloc _).alloc _;have q0:=Ae (Ag w (.cells #[vI k,vI a,vE,vI 0,vE,vZ,vZ,vZ] 27)) (.cells #[vI 0,vI 0,vE,vI 0,vE,vZ,vZ,vZ] 27);have g0:=Ag (w.alloc (.cells #[vI k,vI a,vE,vI 0,vE,vZ,vZ,vZ] 27)) (.cells #[vI 0,vI 0,vE,vI 0,vE,vZ,vZ,vZ] 27);have hsz:(w.alloc (.cells #[vI k,vI a,vE,vI 0,vE,vZ,vZ,vZ] 27)).heap.size=w.heap.size+1:=by simp
 rw[hsz] at g0;clear hsz;have h0:=H.out.fr f0;have F:=f0.mono (L':=[P]) (fun x hx=>by cases hx)
 generalize (w.alloc (.cells #[vI k,vI a,vE,vI 0,vE,vZ,vZ,vZ] 27)).alloc (.cells #[vI 0,vI 0,vE,vI 0,vE,vZ,vZ,vZ] 27)=w1 at *
 generalize hT:w.heap.size=T at *
 generalize hB:T+1=B at *
 have hPT:P<T:=hP;have hgT:g<T:=hgl;clear f0 hP hgl;refine(IH.out.seq P g c st w1 h0 (by have:=HN.out;omega)).mono ?_;rintro e x1 ⟨k1,a1,nm1,n1,s1,ls1,args1,arms1,A51,n51,c51,A61,n61,c61,A71,n71,c71,st1,rfl,hx1,hr1,hst1,f1⟩;have hw1:=Aa g0;have hT1:=Aa q0;have g0:=f1.keep g0 sO;have q0:=f1.keep q0 sO;have F:=F.trans f1;have hs1:=f1.size;have hxs:=Aa g0;have kqq361:=@Hz _ @nn709;exact qq361):p:=h
theorem nn681(h:p:=by
 have HH1:=Hz (h1.fr ((Fr.refl [] (x1.setCell ⟨T,6,none⟩ (.slice (some ⟨x1.heap.size,0,none⟩) 1 1))).alloc (.cells #[vI k1,vI a1,vS nm1,vI n1,vS s1,.slice A51 n51 c51,.slice A61 n61 c61,.slice A71 n71 c71] 27)));have HF1:=Hz (F1.alloc (.cells #[vI k1,vI a1,vS nm1,vI n1,vS s1,.slice A51 n51 c51,.slice A61 n61 c61,.slice A71 n71 c71] 27));have ROW1:=Hz row;clear q0 q1 g0 g1 h1 F1 F fs row hx1 hst1 hss h0 H;go_wp2_with fail;clear m0 m1 m2 m3 m4 m5 m6 m7 j0 j1 j2 j3 j4 j5 j6 j7
 generalize (x1.setCell ⟨T,6,none⟩ (.slice (some ⟨x1.heap.size,0,none⟩) 1 1)).alloc (.cells #[vI k1,vI a1,vS nm1,vI n1,vS s1,.slice A51 n51 c51,.slice A61 n61 c61,.slice A71 n71 c71] 27)=x2 at *
 generalize x1.heap.size=gz at *
 have q0:=HQ.out;have g0:=HG1.out;have h0:=HH1.out;have F:=HF1.out;have row:=ROW1.out;clear HQ HG1 HH1 HF1 ROW1 f1;obtain⟨u0,hu0⟩:=Bn h0.inb;refine(Cp [119,105,116,104] P g c ts st1 u0 hu0 x2 h0 HE.out).mono ?_;rintro e y0 ⟨rfl,h0,fm⟩;have kqq225:=@Hz _ @nn422;exact qq225):p:=h
theorem nn709(h:p:=by
 have q1:(x1.setCell ⟨T,6,none⟩ (.slice (some ⟨x1.heap.size,0,none⟩) 1 1)).heap[T]?=some (.cells #[vI k,vI a,vE,vI 0,vE,vZ,.slice (some ⟨x1.heap.size,0,none⟩) 1 1,vZ] 27 (0,0)):=Cl q0 6 _;have fs:=(Fr.refl [T] x1).setCell (p:=⟨T,6,none⟩) (.inl sM) (.slice (some ⟨x1.heap.size,0,none⟩) 1 1);have g1:=fs.keep g0 sO;have h1:=hst1.frL fs sO sO;have F1:=F.step fs (fun x hx => .inr (by simp at hx;omega));have hx1:=hx1.keep (ok':=fun b=>B<b∧¬ b=T∧¬ b=P) (Sh.of_fr fs (fun b hb hlt=>⟨by have:w1.heap.size≤b:=hb;exact⟨oM,oM,oM⟩,by have:w1.heap.size≤b:=hb;simp;omega⟩));have hss:(x1.setCell ⟨T,6,none⟩ (.slice (some ⟨x1.heap.size,0,none⟩) 1 1)).heap.size=x1.heap.size:=by simp[World.setCell]
 have kqq351:=@Hz _ @nn681;exact qq351):p:=h
theorem arms_step(ts:List Tok)(hE:Cx ts)(N:Nat)(ih:Hi ts N)(ihP:GP ts N 2 .pat 108):GA ts (N+1):=by
 intro P g c st k a w h hm;have IH:=Hz ih;have IHP:=Hz ihP;clear ih ihP;have kqq340:=@Hz _ @nn646;exact qq340
theorem nn137(h:p:=by
 refine(may_yes [125] P g c ts st t HT.out HB.out w1 h0 HE.out).mono ?_;rintro e x1 ⟨rfl,h0,fm⟩;have g0:=fm.keep g0 sO;have q0:=fm.keep q0 sO;have F:=F.trans fm;clear fm;obtain⟨⟨m0,m1,m2,m3,m4,m5,m6,m7⟩,j0,j1,j2,j3,j4,j5,j6,j7⟩:=Ac q0;obtain⟨⟨u0_,u1,u2,u3,u4,u5,u6,u7⟩,z0,z1,z2,z3,z4,z5,z6,z7⟩:=Ac g0;have hTx:=Aa q0;have hBx:=Aa g0;have nBT:¬ B=T:=by omega
 have nTB:¬ T=B:=by omega
 have fs:=((Fr.refl [T] x1).setCell (p:=⟨T,0,none⟩) (.inl sM) (vI 12))
 have kqq349:=@Hz _ @nn678;exact qq349):p:=h
theorem nn678(h:p:=by
 have HG:=Hz (Aq g0 (vI 12) (vI a) (vE) (vI 0) (vE) (vZ) (vZ) (vZ));have HF:=Hz (F.step (Aj (x1.setCell ⟨T,0,none⟩ (vI 12)) B (vI 12) (vI a) (vE) (vI 0) (vE) (vZ) (vZ) (vZ)) (fun x hx => .inr (by simp at hx;omega)));have HP:=Hz (h0.frL (Aj (x1.setCell ⟨T,0,none⟩ (vI 12)) B (vI 12) (vI a) (vE) (vI 0) (vE) (vZ) (vZ) (vZ)) sO sO);unfold st8 at HG HF HP;go_wp2_with fail;generalize ((((((((x1.setCell ⟨T,0,none⟩ (vI 12)).setCell ⟨B,0,none⟩ (vI 12)).setCell ⟨B,1,none⟩ (vI a)).setCell ⟨B,2,none⟩ (vE)).setCell ⟨B,3,none⟩ (vI 0)).setCell ⟨B,4,none⟩ (vE)).setCell ⟨B,5,none⟩ (vZ)).setCell ⟨B,6,none⟩ (vZ)).setCell ⟨B,7,none⟩ (vZ)=Z at HG HF HP  ⊢;obtain⟨⟨d0,d1,d2,d3,d4,d5,d6,d7⟩,_⟩:=Ac HG.out;have hxx:=Ak.of_rows (w:=Z) (ok:=fun b=>B≤b) (k:=12) (a:=a) (nm:=[]) (n:=0) (s:=[]) (c5:=fun _=>[]) An.nil_ (c6:=fun _=>[]) An.nil_ (c7:=fun _=>[]) An.nil_;refine bodyPost_ret (v:=.agg #[vI 12,vI a,vE,vI 0,vE,vZ,vZ,vZ]) ?_ rfl ?_
 ·exact qq204
 ·exact⟨_,_,_,_,_,_,_,_,_,_,_,_,_,_,_,_,_,_,rfl,hxx.keep (Sh.of_fr (Fr.refl [] Z) (fun b hb hlt=>⟨oM,fun x=>by cases x⟩)),by unfold body;exact .may_yes HT.out HB.out (.thn .retE),HP.out,HF.out⟩):p:=h
theorem U3(ts:List Tok)(hE:Cx ts)(N:Nat)(ih:Hi ts N)(P g c:Nat)(st:St)(a:Int)(w:World)(h:PSt P g c ts st w)(hm:16 *(ts.length-st.i)+14<N+1)(t:Tok)(ht:ts[st.i]?=some t)(hb:isB t st.ok [[125]]=true):Calls prog 140 #[.pointer (some ⟨P,0,none⟩),.agg #[vI 0,vI a,vE,vI 0,vE,vZ,vZ,vZ]] w (Kw P g c ts st (body (.braces a)) w):=by
 have HB:=Hz hb;clear hb;have kqq42:=@Hz _ @nn137;exact qq42
theorem nn102(h:p:=by
 refine hK5.out _ _ ?_ (fun hHeld=>?_)
 ·exact u6
 have kqq335:=@Hz _ @nn630;exact qq335):p:=h
theorem nn136(h:p:=by
 have kqq226:=@Hz _ @nn423;exact qq226):p:=h
theorem nn239(h:p:=by
 rcases HCS.out with hk|⟨hk,hk7|⟨hk7,hx⟩⟩
 all_goals
  have kqq361:=@Hz _ @nn716;exact qq361):p:=h
theorem nn341(h:p:=by
 refine Am (i:=3) rfl kR (fun K3 hK3=>?_);have kqq224:=@Hz _ @nn412;exact qq224):p:=h
theorem nn412(h:p:=by
 refine hK3.out _ _ ?_ (fun hHeld=>?_)
 ·exact(Ac Q8).1.2.2.2.2.2.2.1
 clear hK3 K3
 (try simp only[Act.put,sX])
 refine Am (i:=4) rfl kR (fun K4 hK4=>?_);go_simp;refine hK4.out _ _ ?_ (fun hHeld=>?_)
 ·exact Ab (Ae Q8 _) 6
 clear hK4 K4
 (try simp only[Act.put,sX])
 refine Am (i:=5) rfl kR (fun K5 hK5=>?_);have kqq32:=@Hz _ @nn102;exact qq32):p:=h
theorem nn416(h:p:=by
 clear fm;go_wp2_with fail;obtain⟨v,hv⟩:=Bn h0.inb;refine(J6 P g c ts (Cf p st1 [119,105,116,104]) v hv y6 h0 HE.out).mono ?_;rintro e x8 ⟨rfl,h0,fm⟩;have kqq365:=@Hz _ @nn726;exact qq365):p:=h
theorem nn421(h:p:=by
 clear fm;have rowE:=An.keep (ok':=fun b=>B<b) As row (Sh.of_fr (Fr.refl [] y2) (fun b hb hlt=>⟨hb.1,fun x=>by cases x⟩));clear row;have kqq336:=@Hz _ @nn631;exact qq336):p:=h
theorem nn423(h:p:=by
 refine Ll (fun w'=>w'.cell? ⟨P,0,none⟩=some (.slice (some ⟨g,0,none⟩) ts.length c)∧w'.cell? ⟨P,1,none⟩=some (vI (st.i:Nat))∧w'.cell? ⟨g,J * 4,none⟩=some (vI n.k)∧w'.cell? ⟨g,J * 4+1,none⟩=some (vI n.at')∧w'.cell? ⟨g,J * 4+2,none⟩=some (.string ⟨n.text.toArray⟩)∧w'.cell? ⟨g,J * 4+3,none⟩=some (vI n.n)) kR kR ?hS1000 (fun K hK hHeld=>?hr1000)
 case hS1000=>go_keep
 have kqq319:=@Hz _ @nn578;exact qq319):p:=h
theorem nn578(h:p:=by
 refine Af (i:=3) (v:=?v1004) rfl kR kR kR (fun _ _ _ h=>h) (Or.inl ⟨by rfl,?hy1004⟩) aS ?hr1004
 case hy1004 =>
  exact qq9
 (try simp only[Act.put,sX])
 refine Af (i:=4) (v:=?v1005) rfl kR kR kR (fun _ _ _ h=>h) (Or.inl ⟨by rfl,?hy1005⟩) aS ?hr1005
 case hy1005 =>
  exact qq9
 (try simp only[Act.put,sX])
 refine Af (i:=5) (v:=?v1006) rfl kR kR kR (fun _ _ _ h=>h) (Or.inl ⟨by rfl,?hy1006⟩) aS ?hr1006
 case hy1006 =>
  exact qq9
 have kqq366:=@Hz _ @nn728;exact qq366):p:=h
theorem nn585(h:p:=by
 clear m0 m1 m2 m3 m4 m5 m6 m7 j0 j1 j2 j3 j4 j5 j6 j7;have q0:=HQ.out;clear HQ
 generalize x3.setCell ⟨T,0,none⟩ (vI 13)=x3n at *
 clear y0 y1 y2 y3 q5 r0 hk
 try clear hk7
 try clear hx
 refine(IH.out.seq P g c st x3n h0 (by have:=HN.out;have:=h0.inb;omega)).mono ?_;rintro e x4 ⟨k1,a1,nm1,n1,s1,ls1,args1,arms1,A51,n51,c51,A61,n61,c61,A71,n71,c71,st1,rfl,hx1,hr1,hst1,f1⟩;have hw1:=Aa g0;have hT1:=Aa q0;have g0:=f1.keep g0 sO;have q0:=f1.keep q0 sO;have F:=F.trans f1;have hs1:=f1.size;have hxs:=Aa g0;have kqq361:=@Hz _ @nn710;exact qq361):p:=h
theorem nn630(h:p:=by
 have kqq370:=@Hz _ @nn740;exact qq370):p:=h
theorem nn631(h:p:=by
 have HG:=Hz (Aq g0 (vI 13) (vI a) (.string ⟨(Be v (Cf p st1 [119,105,116,104])).toArray⟩) (vI 0) (vE) (vZ) (.slice (some ⟨g9,0,none⟩) 2 cp9) (vZ));have HF:=Hz (F.step (Aj y2 B (vI 13) (vI a) (.string ⟨(Be v (Cf p st1 [119,105,116,104])).toArray⟩) (vI 0) (vE) (vZ) (.slice (some ⟨g9,0,none⟩) 2 cp9) (vZ)) (fun x hx => .inr (by simp at hx;omega)));have HP:=Hz (h0.frL (Aj y2 B (vI 13) (vI a) (.string ⟨(Be v (Cf p st1 [119,105,116,104])).toArray⟩) (vI 0) (vE) (vZ) (.slice (some ⟨g9,0,none⟩) 2 cp9) (vZ)) sO sO);have HRW0:=Hz (An.keep (ok':=fun b=>B≤b) As rowE (Sh.of_fr (Aj y2 B (vI 13) (vI a) (.string ⟨(Be v (Cf p st1 [119,105,116,104])).toArray⟩) (vI 0) (vE) (vZ) (.slice (some ⟨g9,0,none⟩) 2 cp9) (vZ)) (fun b hb hlt=>⟨oM,by simp;omega⟩)));unfold st8 at HG HF HP HRW0;go_wp2_with fail;generalize (((((((y2.setCell ⟨B,0,none⟩ (vI 13)).setCell ⟨B,1,none⟩ (vI a)).setCell ⟨B,2,none⟩ (.string ⟨(Be v (Cf p st1 [119,105,116,104])).toArray⟩)).setCell ⟨B,3,none⟩ (vI 0)).setCell ⟨B,4,none⟩ (vE)).setCell ⟨B,5,none⟩ (vZ)).setCell ⟨B,6,none⟩ (.slice (some ⟨g9,0,none⟩) 2 cp9)).setCell ⟨B,7,none⟩ (vZ)=Z at HG HF HP HRW0 ⊢;obtain⟨⟨d0,d1,d2,d3,d4,d5,d6,d7⟩,_⟩:=Ac HG.out;have hxx:=Ak.of_rows (w:=Z) (ok:=fun b=>B≤b) (k:=13) (a:=a) (nm:=Be v (Cf p st1 [119,105,116,104])) (n:=0) (s:=[]) (c5:=fun _=>[]) An.nil_ HRW0.out (c7:=fun _=>[]) An.nil_;refine bodyPost_ret (v:=.agg #[vI 13,vI a,.string ⟨(Be v (Cf p st1 [119,105,116,104])).toArray⟩,vI 0,vE,vZ,.slice (some ⟨g9,0,none⟩) 2 cp9,vZ]) ?_ rfl ?_
 ·exact qq204
 ·exact⟨_,_,_,_,_,_,_,_,_,_,_,_,_,_,_,_,_,_,rfl,hxx.keep (Sh.of_fr (Fr.refl [] Z) (fun b hb hlt=>⟨oM,fun x=>by cases x⟩)),by unfold body;exact .may_no HT.out HB.out (.els (.ahead (by unfold Lo;rw[← HJ.out];exact HN_.out) (.look HT.out (by rw[if_neg (by rcases HCS.out with h|⟨_,h|⟨_,h⟩⟩<;> rw[h] <;> simp)];exact .callE hr1 (.must_ hp (.name_ hv (.must_ hq (.callE hr2 (.must_ hq2 .retE))))))))),HP.out,HF.out⟩):p:=h
theorem nn673(h:p:=by
 have row:=An.keep (ok':=fun b=>B<b∧¬ b=T∧¬ b=P) As row (Sh.of_fr fs (fun b hb hlt=>⟨hb,by simp;exact hb.2.1⟩));have HQ:=Hz q1;clear q0 q1 fs;go_wp2_with fail;clear m0 m1 m2 m3 m4 m5 m6 m7 j0 j1 j2 j3 j4 j5 j6 j7;have q0:=HQ.out;clear HQ
 generalize x8.setCell ⟨T,2,none⟩ (.string ⟨(Be v (Cf p st1 [119,105,116,104])).toArray⟩)=x8n at *
 obtain⟨q,hq⟩:=Bn h0.inb;refine(Cp [61] P g c ts (El v (Cf p st1 [119,105,116,104])) q hq x8n h0 HE.out).mono ?_;rintro e y0 ⟨rfl,h0,fm⟩;have kqq365:=@Hz _ @nn724;exact qq365):p:=h
theorem nn682(h:p:=by
 have HH1:=Hz (h1.fr ((Fr.refl [] (x4.setCell ⟨T,6,none⟩ (.slice (some ⟨x4.heap.size,0,none⟩) 1 1))).alloc (.cells #[vI k1,vI a1,vS nm1,vI n1,vS s1,.slice A51 n51 c51,.slice A61 n61 c61,.slice A71 n71 c71] 27)));have HF1:=Hz (F1.alloc (.cells #[vI k1,vI a1,vS nm1,vI n1,vS s1,.slice A51 n51 c51,.slice A61 n61 c61,.slice A71 n71 c71] 27));have ROW1:=Hz row;clear q0 q1 g0 g1 h1 F1 F fs row hx1 hst1 hss h0;go_wp2_with fail;clear m0 m1 m2 m3 m4 m5 m6 m7 j0 j1 j2 j3 j4 j5 j6 j7
 generalize (x4.setCell ⟨T,6,none⟩ (.slice (some ⟨x4.heap.size,0,none⟩) 1 1)).alloc (.cells #[vI k1,vI a1,vS nm1,vI n1,vS s1,.slice A51 n51 c51,.slice A61 n61 c61,.slice A71 n71 c71] 27)=x5 at *
 generalize x4.heap.size=gz at *
 have q0:=HQ.out;have g0:=HG1.out;have h0:=HH1.out;have F:=HF1.out;have row:=ROW1.out;clear HQ HG1 HH1 HF1 ROW1 f1;obtain⟨p,hp⟩:=Bn h0.inb;refine(Cp [119,105,116,104] P g c ts st1 p hp x5 h0 HE.out).mono ?_;rintro e y6 ⟨rfl,h0,fm⟩;have kqq225:=@Hz _ @nn416;exact qq225):p:=h
theorem nn700(h:p:=by
 have hle1:=hr1.le;have hle2:=D1 p st1 [119,105,116,104];have hle3:=Jz v (Cf p st1 [119,105,116,104]);have hle4:=D1 q (El v (Cf p st1 [119,105,116,104])) [61];have cS:=fun W hW=>Hz (IH.out.seq P g c (Cf q (El v (Cf p st1 [119,105,116,104])) [61]) W hW (by have:=HN.out;have:=h0.inb;omega))
 have kqq367:=@Hz _ @nn733;exact qq367):p:=h
theorem nn710(h:p:=by
 have q1:(x4.setCell ⟨T,6,none⟩ (.slice (some ⟨x4.heap.size,0,none⟩) 1 1)).heap[T]?=some (.cells #[vI 13,vI a,vE,vI 0,vE,vZ,.slice (some ⟨x4.heap.size,0,none⟩) 1 1,vZ] 27 (0,0)):=Cl q0 6 _;have fs:=(Fr.refl [T] x4).setCell (p:=⟨T,6,none⟩) (.inl sM) (.slice (some ⟨x4.heap.size,0,none⟩) 1 1);have g1:=fs.keep g0 sO;have h1:=hst1.frL fs sO sO;have F1:=F.step fs (fun x hx => .inr (by simp at hx;omega));have hx1:=hx1.keep (ok':=fun b=>B<b∧¬ b=T∧¬ b=P) (Sh.of_fr fs (fun b hb hlt=>⟨by have:x3n.heap.size≤b:=hb;exact⟨oM,oM,oM⟩,by have:x3n.heap.size≤b:=hb;simp;omega⟩));have hss:(x4.setCell ⟨T,6,none⟩ (.slice (some ⟨x4.heap.size,0,none⟩) 1 1)).heap.size=x4.heap.size:=by simp[World.setCell]
 have kqq351:=@Hz _ @nn682;exact qq351):p:=h
theorem nn714(h:p:=by
 have q1:(x8.setCell ⟨T,2,none⟩ (.string ⟨(Be v (Cf p st1 [119,105,116,104])).toArray⟩)).heap[T]?=some (.cells #[vI 13,vI a,.string ⟨(Be v (Cf p st1 [119,105,116,104])).toArray⟩,vI 0,vE,vZ,.slice (some ⟨gz,0,none⟩) 1 1,vZ] 27 (0,0)):=Cl q0 2 _;have fs:=(Fr.refl [T] x8).setCell (p:=⟨T,2,none⟩) (.inl sM) (.string ⟨(Be v (Cf p st1 [119,105,116,104])).toArray⟩);have kqq349:=@Hz _ @nn673;exact qq349):p:=h
theorem nn716(h:p:=by
 have q1:(x3.setCell ⟨T,0,none⟩ (vI 13)).heap[T]?=some (.cells #[vI 13,vI a,vE,vI 0,vE,vZ,vZ,vZ] 27 (0,0)):=Cl q0 0 _;have fs:=(Fr.refl [T] x3).setCell (p:=⟨T,0,none⟩) (.inl sM) (vI 13);have kqq320:=@Hz _ @nn585;exact qq320):p:=h
theorem nn724(h:p:=by
 clear fm;have kqq359:=@Hz _ @nn700;exact qq359):p:=h
theorem nn726(h:p:=by
 have kqq361:=@Hz _ @nn714;exact qq361):p:=h
theorem nn728(h:p:=by
 refine Af (i:=7) (v:=?v1008) rfl kR kR kR (fun _ _ _ h=>h) (Or.inl ⟨by rfl,?hy1008⟩) aS ?hr1008
 case hy1008 =>
  exact qq9
 (try simp only[Act.put,sX])
 refine Af (i:=8) (v:=?v1009) rfl kR kR kR (fun _ _ _ h=>h) (Or.inl ⟨by rfl,?hy1009⟩) aS ?hr1009
 case hy1009 =>
  exact qq9
 (try simp only[Act.put,sX])
 refine Af (i:=9) (v:=?v1010) rfl kR kR kR (fun _ _ _ h=>h) (Or.inl ⟨by rfl,?hy1010⟩) aS ?hr1010
 case hy1010 =>
  exact qq9
 (try simp only[Act.put,sX])
 refine Af (i:=10) (v:=?v1011) rfl kR kR kR (fun _ _ _ h=>h) (Or.inl ⟨by rfl,?hy1011⟩) aS ?hr1011
 case hy1011 =>
  exact qq9
 (try simp only[Act.put,sX])
 refine Af (i:=11) (v:=?v1012) rfl kR kR kR (fun _ _ _ h=>h) (Or.inl ⟨by rfl,?hy1012⟩) aS ?hr1012
 case hy1012 =>
  exact qq9
 (try simp only[Act.put,sX])
 refine Af (i:=12) (v:=?v1013) rfl kR kR kR (fun _ _ _ h=>h) (Or.inl ⟨by rfl,?hy1013⟩) aS ?hr1013
 case hy1013 =>
  exact qq9
 (try simp only[Act.put,sX])
 refine Af (i:=13) (v:=?v1014) rfl kR kR kR (fun _ _ _ h=>h) (Or.inl ⟨by rfl,?hy1014⟩) aS ?hr1014
 case hy1014 =>
  exact qq9
 (try simp only[Act.put,sX])
 refine Af (i:=14) (v:=?v1015) rfl kR kR kR (fun _ _ _ h=>h) (Or.inl ⟨by rfl,?hy1015⟩) aS ?hr1015
 case hy1015 =>
  exact qq9
 (try simp only[Act.put,sX])
 refine Af (i:=15) (v:=?v1016) rfl kR kR kR (fun _ _ _ h=>h) (Or.inl ⟨by rfl,?hy1016⟩) aS ?hr1016
 case hy1016 =>
  exact qq9
 (try simp only[Act.put,sX])
 refine Af (i:=16) (v:=?v1017) rfl kR kR kR (fun _ _ _ h=>h) (Or.inl ⟨by rfl,?hy1017⟩) aS ?hr1017
 case hy1017 =>
  exact qq9
 (try simp only[Act.put,sX])
 refine Af (i:=17) (v:=?v1018) rfl kR kR kR (fun _ _ _ h=>h) (Or.inl ⟨by rfl,?hy1018⟩) aS ?hr1018
 case hy1018 =>
  exact qq9
 (try simp only[Act.put,sX])
 refine Am (i:=18) rfl kR (fun K18 hK18=>?hr1019);go_simp;refine hK18.out _ _ ?hS1019 (fun hHeld=>?hq1019)
 case hS1019=>go_keep
 clear hK18 K18
 (try simp only[Act.put,sX])
 refine wpAnyH_done kR ?hr1020 _;refine Bi rfl ?hq1020;go_simp;refine hK.out _ _ ?hs1020;have kqq84:=@Hz _ @nn239;exact qq84):p:=h
theorem nn733(h:p:=by
 refine Bo (fun w'=>w'.cell? ⟨T,6,none⟩=some (.slice (some ⟨gz,0,none⟩) 1 1)) kR kR ?_ (fun K hK hHeld=>?_)
 ·go_keep
 have kqq142:=@Hz _ @nn341;exact qq142):p:=h
theorem nn740(h:p:=by
 obtain⟨F,g0,q0,h0,row,hsh,hnew,hsz⟩:=Fc (fld:=6) (size:=8) As f8 hx2 rfl hst g0 q0 row F oM oM oM oM oM oM oM hown9 hgrow9 hfp9 (VV':=#[vI 13,vI a,.string ⟨(Be v (Cf p st1 [119,105,116,104])).toArray⟩,vI 0,vE,vZ,.slice (some ⟨g9,0,none⟩) 2 cp9,vZ]) rfl;clear ROWH ROW9 Q8 Q9 hown9 hgrow9 hfp9 f8 hst hT8 hT9 hTwr
 generalize w9.setCell ⟨T,6,none⟩ (.slice (some ⟨g9,0,none⟩) 2 cp9)=y1 at *
 clear hsh hnew hsz cS;go_wp2_with fail;obtain⟨q2,hq2⟩:=Bn h0.inb;refine(Cp [125] P g c ts st5 q2 hq2 y1 h0 HE.out).mono ?_;rintro e y2 ⟨rfl,h0,fm⟩;have kqq225:=@Hz _ @nn421;exact qq225):p:=h
theorem Md(ts:List Tok)(hE:Cx ts)(N:Nat)(ih:Hi ts N)(P g c:Nat)(st:St)(a:Int)(w:World)(h:PSt P g c ts st w)(hm:16 *(ts.length-st.i)+14<N+1)(t:Tok)(ht:ts[st.i]?=some t)(hb:isB t st.ok [[125]]=false)(n:Tok)(J:Nat)(hj:J=min (st.i+1) (ts.length-1))(hn:ts[J]?=some n)(hc:(t.k==1)=false∨(t.k==1)=true∧((n.k==7)=false∨(n.k==7)=true∧(n.text==[61])=false)):Calls prog 140 #[.pointer (some ⟨P,0,none⟩),.agg #[vI 0,vI a,vE,vI 0,vE,vZ,vZ,vZ]] w (Kw P g c ts st (body (.braces a)) w):=by
 have HB:=Hz hb;clear hb;have HJ:=Hz hj;clear hj;have HN_:=Hz hn;clear hn;have HCS:Hid ((t.k==1)=false∨(t.k==1)=true∧((n.k==7)=false∨(n.k==7)=true∧(n.text==[61])=false)):=Hz hc;clear hc;have kqq42:=@Hz _ @nn136;exact qq42
def LKr(a:Int)(ls:List LB)(args:List Ad):Cmd:=.look fun _ ok=>if ok=true then .callE (.recL a ls args) .retE else Ch [125] (.retE (.mk 12 a [] 0 [] ls args []))
def ENDr(a:Int)(ls:List LB)(args:List Ad):Cmd:=Ch [125] (.retE (.mk 12 a [] 0 [] ls args []))
theorem LKr_no{ts:List Tok}{a:Int}{ls:List LB}{args:List Ad}{st st':St}{r:Rs}{t:Tok}(ht:ts[st.i]?=some t)(hok:st.ok=false)(h:Run ts (ENDr a ls args) st r st'):Run ts (LKr a ls args) st r st' :=
 .look ht (by rw[hok,if_neg dC];exact h)
theorem Se{ts:List Tok}{a:Int}{ls:List LB}{args:List Ad}{st0 st3:St}{y:Ad}{u u1 v:Tok}(hu:ts[st0.i]?=some u)(hok:st0.ok=true)(hu1:ts[(El u st0).i]?=some u1)
  (hs:Run ts (body .seq) (Cf u1 (El u st0) [61]) (.e y) st3) (hv:ts[st3.i]?=some v) {b:Bool} (hb:isB v st3.ok [[44]]=b) {z:Ad} {st':St}
  (h:Run ts (if b=true then LKr a (ls++[Be u st0]) (args++[y])else ENDr a (ls++[Be u st0]) (args++[y])) (if b=true then ⟨st3.i+1,st3.ok⟩else st3) (.e z) st'):Run ts (LKr a ls args) st0 (.e z) st':=by
 refine .look hu ?_;rw[hok,if_pos rfl];unfold El at hu1 hs;refine .callE ?_ .retE;unfold body;refine .name_ hu (.must_ hu1 (.callE hs ?_));exact qq93
theorem nn93(h:p:=by
 refine bodyPost_ret (v:=.agg #[vI 12,vI a,vE,vI 0,vE,.slice A5 n5 cc5,.slice A6 n6 cc6,vZ]) ?_ rfl ?_
 ·exact qq204
 ·exact⟨_,_,_,_,_,_,_,_,_,_,_,_,_,_,_,_,_,_,rfl,hxx.keep (Sh.of_fr (Fr.refl [] Z) (fun b hb hlt=>⟨oM,fun x=>by cases x⟩)),HR.out _ _ (by(first|rw[if_pos rfl] | rw[if_pos trivial]);exact LKr_no hu HOK.out (.must_ hu .retE)),HP.out,HF.out⟩):p:=h
theorem nn94(h:p:=by
 refine bodyPost_ret (v:=.agg #[vI 12,vI a,vE,vI 0,vE,.slice A5 n5 cc5,.slice A6 n6 cc6,vZ]) ?_ rfl ?_
 ·exact qq204
 ·exact qq165):p:=h
theorem nn135(h:p:=by
 have kqq226:=@Hz _ @nn424;exact qq226):p:=h
theorem nn240(h:p:=by
 have hk:=HK.out;have hk7:=HK7.out;have hx:=HX.out;have kqq361:=@Hz _ @nn715;exact qq361):p:=h
theorem nn267(h:p:=by
 obtain⟨⟨u0,u1,u2,u3,u4,u5,u6,u7⟩,z0,z1,z2,z3,z4,z5,z6,z7⟩:=Ac Q9;refine hK5.out _ _ ?hS1117 (fun hHeld=>?hq1117)
 case hS1117=>exact u5
 clear hK5 K5
 (try simp only[Act.put,sX])
 refine Af (i:=6) (v:=?v1118) rfl kR kR kR (fun _ _ _ h=>h) (Or.inl ⟨by rfl,?hy1118⟩) aS ?hr1118
 case hy1118 =>
  exact qq9
 (try simp only[Act.put,sX])
 refine wpAnyH_done kR ?hr1119 _;refine Bi rfl ?hq1119;go_simp;refine hK.out _ _ ?hs1119;clear hK K;clear l0 l1 l2 l3 l4 l5 l6 l7 u0 u1 u2 u3 u4 u5 u6 u7 z0 z1 z2 z3 z4 z5 z6 z7;have f8:Fr [P] wr x8:=((Fr.refl [P] wr).drew).trans f8;have rowS:=ROWH.out;obtain⟨F,g0,q0,h0,rowS,hsh,hnew,hsz⟩:=Iy (fld:=5) (size:=1) Cg f8 hxn rfl hst g0 q0 rowS (fun b hb=>⟨hb.1.2.1,hb.1.2.2,by have:=hb.1.1;omega,by have:=hb.1.1;omega⟩) (fun b hb=>⟨⟨by have:=Aa g0;omega,by have:=Aa q0;omega,by have:=Aa g0;omega⟩,fun e=>by have:=X6 b e;omega⟩) (fun b hb=>by have:=hb.1.1;omega) F oM oM oM oM oM oM oM hown9 hgrow9 hfp9 (VV':=#[vI 12,vI a,vE,vI 0,vE,.slice (some ⟨g9,0,none⟩) (ls.length+1) cp9,v6,vZ]) rfl;have rowE:=An.keep (ok':=fun b=>(B<b∧¬ b=T∧¬ b=P)∧(Value.slice (some ⟨g9,0,none⟩) (ls.length+1) cp9).ownBlock≠some b) As rowE (fun b hb hlt=>⟨⟨hb.1,fun e=>(hnew b e).elim hb.2 (fun h=>by omega)⟩,hsh b hlt hb.1.2.1 hb.1.2.2 hb.2⟩);have kqq325:=@Hz _ @nn607;exact qq325):p:=h
theorem nn424(h:p:=by
 refine Ll (fun w'=>w'.cell? ⟨P,0,none⟩=some (.slice (some ⟨g,0,none⟩) ts.length c)∧w'.cell? ⟨P,1,none⟩=some (vI (st.i:Nat))∧w'.cell? ⟨g,J * 4,none⟩=some (vI n.k)∧w'.cell? ⟨g,J * 4+1,none⟩=some (vI n.at')∧w'.cell? ⟨g,J * 4+2,none⟩=some (.string ⟨n.text.toArray⟩)∧w'.cell? ⟨g,J * 4+3,none⟩=some (vI n.n)) kR kR ?hS1090 (fun K hK hHeld=>?hr1090)
 case hS1090=>go_keep
 refine Af (i:=0) (v:=?v1091) rfl kR kR kR (fun _ _ _ h=>h) (Or.inl ⟨by rfl,?hy1091⟩) aS ?hr1091
 case hy1091 =>
  exact qq9
 (try simp only[Act.put,sX])
 refine Af (i:=1) (v:=?v1092) rfl kR kR kR (fun _ _ _ h=>h) (Or.inl ⟨by rfl,?hy1092⟩) aS ?hr1092
 case hy1092 =>
  exact qq9
 (try simp only[Act.put,sX])
 refine Af (i:=2) (v:=?v1093) rfl kR kR kR (fun _ _ _ h=>h) (Or.inl ⟨by rfl,?hy1093⟩) aS ?hr1093
 case hy1093 =>
  exact qq9
 (try simp only[Act.put,sX])
 refine Af (i:=3) (v:=?v1094) rfl kR kR kR (fun _ _ _ h=>h) (Or.inl ⟨by rfl,?hy1094⟩) aS ?hr1094
 case hy1094 =>
  exact qq9
 (try simp only[Act.put,sX])
 refine Af (i:=4) (v:=?v1095) rfl kR kR kR (fun _ _ _ h=>h) (Or.inl ⟨by rfl,?hy1095⟩) aS ?hr1095
 case hy1095 =>
  exact qq9
 (try simp only[Act.put,sX])
 refine Af (i:=5) (v:=?v1096) rfl kR kR kR (fun _ _ _ h=>h) (Or.inl ⟨by rfl,?hy1096⟩) aS ?hr1096
 case hy1096 =>
  exact qq9
 (try simp only[Act.put,sX])
 refine Af (i:=6) (v:=?v1097) rfl kR kR kR (fun _ _ _ h=>h) (Or.inl ⟨by rfl,?hy1097⟩) aS ?hr1097
 case hy1097 =>
  exact qq9
 (try simp only[Act.put,sX])
 refine Af (i:=7) (v:=?v1098) rfl kR kR kR (fun _ _ _ h=>h) (Or.inl ⟨by rfl,?hy1098⟩) aS ?hr1098
 case hy1098 =>
  exact qq9
 (try simp only[Act.put,sX])
 refine Af (i:=8) (v:=?v1099) rfl kR kR kR (fun _ _ _ h=>h) (Or.inl ⟨by rfl,?hy1099⟩) aS ?hr1099
 case hy1099 =>
  exact qq9
 (try simp only[Act.put,sX])
 refine Af (i:=9) (v:=?v1100) rfl kR kR kR (fun _ _ _ h=>h) (Or.inl ⟨by rfl,?hy1100⟩) aS ?hr1100
 case hy1100 =>
  exact qq9
 (try simp only[Act.put,sX])
 refine Af (i:=10) (v:=?v1101) rfl kR kR kR (fun _ _ _ h=>h) (Or.inl ⟨by rfl,?hy1101⟩) aS ?hr1101
 case hy1101 =>
  exact qq9
 (try simp only[Act.put,sX])
 refine Af (i:=11) (v:=?v1102) rfl kR kR kR (fun _ _ _ h=>h) (Or.inl ⟨by rfl,?hy1102⟩) aS ?hr1102
 case hy1102 =>
  exact qq9
 (try simp only[Act.put,sX])
 refine Af (i:=12) (v:=?v1103) rfl kR kR kR (fun _ _ _ h=>h) (Or.inl ⟨by rfl,?hy1103⟩) aS ?hr1103
 case hy1103 =>
  exact qq9
 (try simp only[Act.put,sX])
 refine Af (i:=13) (v:=?v1104) rfl kR kR kR (fun _ _ _ h=>h) (Or.inl ⟨by rfl,?hy1104⟩) aS ?hr1104
 case hy1104 =>
  exact qq9
 (try simp only[Act.put,sX])
 refine Af (i:=14) (v:=?v1105) rfl kR kR kR (fun _ _ _ h=>h) (Or.inl ⟨by rfl,?hy1105⟩) aS ?hr1105
 case hy1105 =>
  exact qq9
 (try simp only[Act.put,sX])
 refine Af (i:=15) (v:=?v1106) rfl kR kR kR (fun _ _ _ h=>h) (Or.inl ⟨by rfl,?hy1106⟩) aS ?hr1106
 case hy1106 =>
  exact qq9
 (try simp only[Act.put,sX])
 refine Af (i:=16) (v:=?v1107) rfl kR kR kR (fun _ _ _ h=>h) (Or.inl ⟨by rfl,?hy1107⟩) aS ?hr1107
 case hy1107 =>
  exact qq9
 (try simp only[Act.put,sX])
 refine Af (i:=17) (v:=?v1108) rfl kR kR kR (fun _ _ _ h=>h) (Or.inl ⟨by rfl,?hy1108⟩) aS ?hr1108
 case hy1108 =>
  exact qq9
 (try simp only[Act.put,sX])
 refine Am (i:=18) rfl kR (fun K18 hK18=>?hr1109);go_simp;refine hK18.out _ _ ?hS1109 (fun hHeld=>?hq1109)
 case hS1109=>go_keep
 clear hK18 K18
 (try simp only[Act.put,sX])
 refine wpAnyH_done kR ?hr1110 _;refine Bi rfl ?hq1110;go_simp;refine hK.out _ _ ?hs1110;have kqq84:=@Hz _ @nn240;exact qq84):p:=h
theorem nn442(h:p:=by
 cases hb:isB v st4.ok [[44]] with
 | true =>
  refine(may_yes [44] P g c ts st4 v hv hb w3_ h0 HE.out).mono ?_;rintro e y10 ⟨rfl,h0,fm⟩;have g0:=fm.keep g0 sO;have q0:=fm.keep q0 sO;have F:=F.trans fm;have kqq357:=@Hz _ @nn697
  exact qq357
 | false =>
  refine(may_no [44] P g c ts st4 v hv hb w3_ h0 HE.out).mono ?_;rintro e y10 ⟨rfl,fm⟩;have g0:=fm.keep g0 nE;have q0:=fm.keep q0 nE;have F:=F.trans0 fm;have h0:=h0.fr fm;have rowE:=An.keep (ok':=fun b=>(B<b∧¬ b=T∧¬ b=P)∧(Value.slice (some ⟨g9,0,none⟩) (ls.length+1) cp9).ownBlock≠some b) As rowE (Sh.of_fr fm (fun b hb hlt=>⟨hb,fun x=>by cases x⟩));have kqq274:=@Hz _ @nn539;exact qq274):p:=h
theorem nn445(h:p:=by
 refine hK3.out _ _ ?hS1115 (fun hHeld=>?hq1115)
 case hS1115=>exact(Ac Q8).1.2.2.2.2.2.1
 clear hK3 K3
 (try simp only[Act.put,sX])
 refine Am (i:=4) rfl kR (fun K4 hK4=>?hr1116);go_simp;refine hK4.out _ _ ?hS1116 (fun hHeld=>?hq1116)
 case hS1116=>exact Ab (Ae Q8 _) 5
 clear hK4 K4
 (try simp only[Act.put,sX])
 refine Am (i:=5) rfl kR (fun K5 hK5=>?hr1117);have kqq96:=@Hz _ @nn267;exact qq96):p:=h
theorem nn532(h:p:=by
 go_roundw
 case rel=>exact⟨true,ls++[Be u st0],args++[(.mk k3 a3 nm3 n3 s3 ls3 args3 arms3)],_,_,_,_,_,rfl,F,g0,q0,rowS,rowE,h0,(by have:=HLE0.out;simp only at *;omega),(by have:=HACC.out;simp at this ⊢;omega),(by have:=HAL.out;simp;omega),Hz (fun x' st' h=>HR1.out _ _ (by
  have hh:=Se hu HOK.out hu1 hr3 hv hb (z:=x') (st':=st') (by rw[if_pos rfl,if_pos rfl];(first|(rw[if_pos rfl] at h;exact h)| (rw[if_pos trivial] at h;exact h)))
  (first|(rw[if_pos rfl];exact hh)| (rw[if_pos trivial];exact hh))))⟩
 case measure =>
  have hin1:=h0.inb;exact qq213):p:=h
theorem nn539(h:p:=by
 go_roundw
 case rel=>exact⟨false,ls++[Be u st0],args++[(.mk k3 a3 nm3 n3 s3 ls3 args3 arms3)],_,_,_,_,_,rfl,F,g0,q0,rowS,rowE,h0,(by have:=HLE0.out;omega),(by have:=HACC.out;simp at this ⊢;omega),(by have:=HAL.out;simp;omega),Hz (fun x' st' h=>HR1.out _ _ (by
  have hh:=Se hu HOK.out hu1 hr3 hv hb (z:=x') (st':=st') (by rw[if_neg dC,if_neg dC];(first|(rw[if_neg dC] at h;exact h)| (rw[if_neg id] at h;exact h)))
  (first|(rw[if_pos rfl];exact hh)| (rw[if_pos trivial];exact hh))))⟩
 case measure =>
  exact qq213):p:=h
theorem nn584(h:p:=by
 clear m0 m1 m2 m3 m4 m5 m6 m7 j0 j1 j2 j3 j4 j5 j6 j7;have q0:=HQ.out;clear HQ
 generalize x3.setCell ⟨T,0,none⟩ (vI 12)=x3n at *
 clear y0 y1 y2 y3 q5 r0 hk hk7 hx;obtain⟨i0s,his,hz0s,hz1s,hz2s⟩:=info_parts infoStr;have HIs:=Hz his;have HZ0s:=Hz hz0s;have HZ1s:=Hz hz1s;have HZ2s:=Hz hz2s;clear his hz0s hz1s hz2s;obtain⟨i0e,hie,hz0e,hz1e,hz2e⟩:=info_parts I2;have HIe:=Hz hie;have HZ0e:=Hz hz0e;have HZ1e:=Hz hz1e;have HZ2e:=Hz hz2e;clear hie hz0e hz1e hz2e
 have HR0:Hid (∀ x' st',Run ts (if true=true then LKr a [] [] else ENDr a [] []) st (.e x') st'→Run ts (body (.braces a)) st (.e x') st'):=Hz (fun x' st' h=>by
  (first|rw[if_pos rfl] at h|rw[if_pos trivial] at h)
  unfold body
  refine .may_no HT.out HB.out (.els (.ahead (by unfold Lo;rw[← HJ.out];exact HN_.out) (.look HT.out ?_)))
  rw[HK.out,HK7.out,HX.out,if_pos rF]
  cases h with
  | look h1 hk=>exact hk)
 go_loopw [6] (fun mv wr=>∃ (b:Bool) (ls:List LB) (args:List Ad) (v5 v6:Value) (c5 c6:Nat→List Value) (st0:St),mv = .bool b∧Fr [P] w wr∧wr.heap[B]?=some (.cells #[vI 0,vI 0,vE,vI 0,vE,vZ,vZ,vZ] 27 (0,0))∧wr.heap[T]?=some (.cells #[vI 12,vI a,vE,vI 0,vE,v5,v6,vZ] 27 (0,0))∧Gp wr (fun b=>(B<b∧¬ b=T∧¬ b=P)∧(v6).ownBlock≠some b) v5 ls c5∧Wc wr (fun b=>(B<b∧¬ b=T∧¬ b=P)∧(v5).ownBlock≠some b) v6 args c6∧PSt P g c ts st0 wr∧st.i≤st0.i∧ls.length≤st0.i+(if b=true then 0 else 1)∧args.length=ls.length∧Hid (∀ x' st',Run ts (if b=true then LKr a ls args else ENDr a ls args) st0 (.e x') st'→Run ts (body (.braces a)) st (.e x') st')) (fun mv wr=>2 *(ts.length-plI wr P)+(match mv with | .bool true=>1|_=>0))
 case atStart=>exact⟨true,[],[],vZ,vZ,fun _=>[],fun _=>[],_,rfl,F,g0,q0,An.nil_,An.nil_,h0,oM,sM,rfl,HR0⟩
 case round =>
  obtain⟨b,ls,args,v5,v6,c5,c6,st0,rfl,F,g0,q0,rowS,rowE,h0,hle0,hacc,hal,HR⟩:=hrel;clear HR0
  cases b with
  | false =>
   go_wp2_with fail;have kqq30:=@Hz _ @nn94
   exact qq30
  | true =>
   obtain⟨p0,p1,p2,_⟩:=Fp h0.blk;have hPw:=Aa h0.blk
   cases hok:st0.ok with
   | false =>
    rw[hok] at p2;have HOK:=Hz hok;clear hok;go_wp2_with fail;clear p0 p1 p2;have kqq30:=@Hz _ @nn93
    exact qq30
   | true =>
    have kqq350:=@Hz _ @nn680;exact qq350):p:=h
theorem nn607(h:p:=by
 have kqq357:=@Hz _ @nn696;exact qq357):p:=h
theorem nn680(h:p:=by
 obtain⟨⟨l0,l1,l2,l3,l4,l5,l6,l7⟩,_⟩:=Ac q0;have hTwr:=Aa q0;have ROWH:=Hz rowS;clear rowS;go_wp2_with fail;clear p2;refine Bo (fun w'=>w'.cell? ⟨T,5,none⟩=some (v5)) kR kR ?hS1111 (fun K hK hHeld=>?hr1111)
 case hS1111=>go_keep
 refine Af (i:=0) (v:=?v1112) rfl kR kR kR (fun _ _ _ h=>h) (Or.inl ⟨by rfl,?hy1112⟩) aS ?hr1112
 case hy1112 =>
  exact qq9
 (try simp only[Act.put,sX])
 refine Af (i:=1) (v:=?v1113) rfl kR kR kR (fun _ _ _ h=>h) (Or.inl ⟨by rfl,?hy1113⟩) aS ?hr1113
 case hy1113 =>
  exact qq9
 (try simp only[Act.put,sX])
 refine Af (i:=2) (v:=?v1114) rfl kR kR kR (fun _ _ _ h=>h) (Or.inl ⟨by rfl,?hy1114⟩) aS ?hr1114
 case hy1114 =>
  exact qq9
 (try simp only[Act.put,sX])
 refine Am (i:=3) rfl kR (fun K3 hK3=>?hr1115);have kqq234:=@Hz _ @nn445;exact qq234):p:=h
theorem nn696(h:p:=by
 have kqq362:=@Hz _ @nn717;exact qq362):p:=h
theorem nn697(h:p:=by
 have kqq269:=@Hz _ @nn532;exact qq269):p:=h
theorem nn715(h:p:=by
 have q1:(x3.setCell ⟨T,0,none⟩ (vI 12)).heap[T]?=some (.cells #[vI 12,vI a,vE,vI 0,vE,vZ,vZ,vZ] 27 (0,0)):=Cl q0 0 _;have fs:=(Fr.refl [T] x3).setCell (p:=⟨T,0,none⟩) (.inl sM) (vI 12);have kqq320:=@Hz _ @nn584;exact qq320):p:=h
theorem nn717(h:p:=by
 have cS:=fun W hW=>Hz (IH.out.seq P g c (Cf u1 (El u st0) [61]) W hW (by have:=HN.out;have:=h0.inb;have:=HLE0.out;omega))
 have X5:∀ gg,(Value.slice (some ⟨g9,0,none⟩) (ls.length+1) cp9).ownBlock=some gg→gg<w2_.heap.size:=fun gg hg=>rowS.own_lt gg hg
 obtain⟨⟨l0,l1,l2,l3,l4,l5,l6,l7⟩,_⟩:=Ac q0;have hTwr:=Aa q0;have ROWH:=Hz rowE;clear rowE;go_wp2_with fail;refine Bo (fun w'=>w'.cell? ⟨T,6,none⟩=some (v6)) kR kR ?hS1120 (fun K hK hHeld=>?hr1120)
 case hS1120=>go_keep
 refine Af (i:=0) (v:=?v1121) rfl kR kR kR (fun _ _ _ h=>h) (Or.inl ⟨by rfl,?hy1121⟩) aS ?hr1121
 case hy1121 =>
  exact qq9
 (try simp only[Act.put,sX])
 refine Af (i:=1) (v:=?v1122) rfl kR kR kR (fun _ _ _ h=>h) (Or.inl ⟨by rfl,?hy1122⟩) aS ?hr1122
 case hy1122 =>
  exact qq9
 (try simp only[Act.put,sX])
 refine Af (i:=2) (v:=?v1123) rfl kR kR kR (fun _ _ _ h=>h) (Or.inl ⟨by rfl,?hy1123⟩) aS ?hr1123
 case hy1123 =>
  exact qq9
 (try simp only[Act.put,sX])
 refine Am (i:=3) rfl kR (fun K3 hK3=>?hr1124);go_simp;refine(cS _ (h0.fr (Fr.refl [] w2_).drew)).out.mono ?_;rintro e x8 ⟨k3,a3,nm3,n3,s3,ls3,args3,arms3,A53,n53,c53,A63,n63,c63,A73,n73,c73,st4,rfl,hx3,hr3,hst4,f8⟩;have hst:=hst4;have Q8:=f8.keep (w:=w2_.drew) q0 sO;have hT8:=Aa Q8;have ROW9:=An.keep (w':=x8.alloc (.cells #[vI k3,vI a3,vS nm3,vI n3,vS s3,.slice A53 n53 c53,.slice A63 n63 c63,.slice A73 n73 c73] 27)) (ok':=fun b=>(B<b∧¬ b=T∧¬ b=P)∧(Value.slice (some ⟨g9,0,none⟩) (ls.length+1) cp9).ownBlock≠some b) As ROWH.out (Sh.of_fr (((Fr.refl [P] w2_).drew.trans f8).alloc _) (fun b hb hlt=>⟨hb,by simp;exact hb.1.2.2⟩));go_simp;refine hK3.out _ _ ?hS1124 (fun hHeld=>?hq1124)
 case hS1124=>exact(Ac Q8).1.2.2.2.2.2.2.1
 clear hK3 K3
 (try simp only[Act.put,sX])
 refine Am (i:=4) rfl kR (fun K4 hK4=>?hr1125);go_simp;refine hK4.out _ _ ?hS1125 (fun hHeld=>?hq1125)
 case hS1125=>exact Ab (Ae Q8 _) 6
 clear hK4 K4
 (try simp only[Act.put,sX])
 refine Am (i:=5) rfl kR (fun K5 hK5=>?hr1126);refine Av rF _ _ 24 rF 27 i0e _ 8 128 underlying24 HIe.out HZ0e.out HZ1e.out HZ2e.out rfl dC (v6) (args.length) (Co c6 (args.length)) rF ROW9.own ⟨x8.heap.size,0,none⟩ 1 1 [vI k3,vI a3,vS nm3,vI n3,vS s3,.slice A53 n53 c53,.slice A63 n63 c63,.slice A73 n73 c73] rF rfl (World.news_of_block (Ag x8 _)) (by simp[Value.oneCell']) (by simp only[maxLen];have:=HLEN.out;have:=HAL.out;omega) (by have:=HLEN.out;have:=HAL.out;omega) ?_;intro v9 w9 hown9 hgrow9 hfp9;obtain⟨g8,cp8,hv9⟩:∃ g cap,v9 = .slice (some ⟨g,0,none⟩) (args.length+1) cap:=Cd hown9
 subst hv9;have Q9:=(hgrow9.block T (Aa (Ae Q8 (.cells #[vI k3,vI a3,vS nm3,vI n3,vS s3,.slice A53 n53 c53,.slice A63 n63 c63,.slice A73 n73 c73] 27))) (fun e=>(ROWH.out.blk T e.symm).1.2.1 rfl)).trans (Ae Q8 (.cells #[vI k3,vI a3,vS nm3,vI n3,vS s3,.slice A53 n53 c53,.slice A63 n63 c63,.slice A73 n73 c73] 27));have hT9:=Aa Q9;obtain⟨⟨u0,u1,u2,u3,u4,u5,u6,u7⟩,z0,z1,z2,z3,z4,z5,z6,z7⟩:=Ac Q9;refine hK5.out _ _ ?hS1126 (fun hHeld=>?hq1126)
 case hS1126=>exact u6
 clear hK5 K5
 (try simp only[Act.put,sX])
 refine Af (i:=6) (v:=?v1127) rfl kR kR kR (fun _ _ _ h=>h) (Or.inl ⟨by rfl,?hy1127⟩) aS ?hr1127
 case hy1127 =>
  exact qq9
 (try simp only[Act.put,sX])
 refine wpAnyH_done kR ?hr1128 _;refine Bi rfl ?hq1128;go_simp;refine hK.out _ _ ?hs1128;clear hK K;clear l0 l1 l2 l3 l4 l5 l6 l7 u0 u1 u2 u3 u4 u5 u6 u7 z0 z1 z2 z3 z4 z5 z6 z7;have f8:Fr [P] w2_ x8:=((Fr.refl [P] w2_).drew).trans f8;have rowE:=ROWH.out;obtain⟨F,g0,q0,h0,rowE,hsh,hnew,hsz⟩:=Iy (fld:=6) (size:=8) As f8 hx3 rfl hst g0 q0 rowE (fun b hb=>⟨hb.1.2.1,hb.1.2.2,by have:=hb.1.1;omega,by have:=hb.1.1;omega⟩) (fun b hb=>⟨⟨by have:=Aa g0;omega,by have:=Aa q0;omega,by have:=Aa g0;omega⟩,fun e=>by have:=X5 b e;omega⟩) (fun b hb=>by have:=hb.1.1;omega) F oM oM oM oM oM oM oM hown9 hgrow9 hfp9 (VV':=#[vI 12,vI a,vE,vI 0,vE,.slice (some ⟨g9,0,none⟩) (ls.length+1) cp9,.slice (some ⟨g8,0,none⟩) (args.length+1) cp8,vZ]) rfl;have kqq233:=@Hz _ @nn442;exact qq233):p:=h
theorem Zd(ts:List Tok)(hE:Cx ts)(N:Nat)(ih:Hi ts N)(P g c:Nat)(st:St)(a:Int)(w:World)(h:PSt P g c ts st w)(hm:16 *(ts.length-st.i)+14<N+1)(t:Tok)(ht:ts[st.i]?=some t)(hb:isB t st.ok [[125]]=false)(n:Tok)(J:Nat)(hj:J=min (st.i+1) (ts.length-1))(hn:ts[J]?=some n)(hk:(t.k==1)=true)(hk7:(n.k==7)=true)(hx:(n.text==[61])=true):Calls prog 140 #[.pointer (some ⟨P,0,none⟩),.agg #[vI 0,vI a,vE,vI 0,vE,vZ,vZ,vZ]] w (Kw P g c ts st (body (.braces a)) w):=by
 have HB:=Hz hb;clear hb;have HJ:=Hz hj;clear hj;have HN_:=Hz hn;clear hn;have HK:=Hz hk;clear hk;have HK7:=Hz hk7;clear hk7;have HX:=Hz hx;clear hx;have kqq42:=@Hz _ @nn135;exact qq42
end
theorem Wp(ts:List Tok)(hE:Cx ts)(N:Nat)(ih:Hi ts N):GB ts (N+1):=by
 intro P g c st a w h hm;obtain⟨t,ht⟩:=Bn h.inb
 cases hb:isB t st.ok [[125]] with
 | true=>exact U3 ts hE N ih P g c st a w h hm t ht hb
 | false =>
  obtain⟨n,hn⟩:=Bn (ts:=ts) (i:=min (st.i+1) (ts.length-1)) (by have:=h.inb;omega)
  cases hk:(t.k==1)with
  | false=>exact Md ts hE N ih P g c st a w h hm t ht hb n _ rfl hn (.inl hk)
  | true =>
   cases hk7:(n.k==7)with
   | false=>exact Md ts hE N ih P g c st a w h hm t ht hb n _ rfl hn (.inr ⟨hk,.inl hk7⟩)
   | true =>
    cases hx:(n.text==[61])with
    | false=>exact Md ts hE N ih P g c st a w h hm t ht hb n _ rfl hn (.inr ⟨hk,.inr ⟨hk7,hx⟩⟩)
    | true=>exact Zd ts hE N ih P g c st a w h hm t ht hb n _ rfl hn hk hk7 hx
section
attribute [local go_sem ↓] Go.wp_at_zero Go.wp_at_succ
theorem nn20(h:p:=by
 have kqq45:=@Hz _ @nn145;exact qq45):p:=h
theorem nn145(h:p:=by
 refine(may_yes [40] P g c ts st t HT.out HB3.out x2 h0 HE.out).mono ?_;rintro e y1 ⟨rfl,h0,fm⟩;have g0:=fm.keep g0 sO;have q0:=fm.keep q0 sO;have F:=F.trans fm;clear fm;go_wp2_with fail;obtain⟨u,hu⟩:=Bn h0.inb
 cases hb:isB u st.ok [[41]] with
 | true =>
  refine(may_yes [41] P g c ts ⟨st.i+1,st.ok⟩ u hu hb y1 h0 HE.out).mono ?_;rintro e y2 ⟨rfl,h0,fm⟩;have kqq95:=@Hz _ @nn262
  exact qq95
 | false =>
  refine(may_no [41] P g c ts ⟨st.i+1,st.ok⟩ u hu hb y1 h0 HE.out).mono ?_;rintro e y2 ⟨rfl,fm⟩;have kqq322:=@Hz _ @nn595;exact qq322):p:=h
theorem nn262(h:p:=by
 have fs:=((Fr.refl [T] y2).setCell (p:=⟨T,0,none⟩) (.inl sM) (vI 6))
 have kqq349:=@Hz _ @nn677;exact qq349):p:=h
theorem nn504(h:p:=by
 have HG:=Hz (Dm g0 (vI k2) (vI a2) (vS nm2) (vI n2) (vS s2) (.slice A52 n52 c52) (.slice A62 n62 c62));have HF:=Hz (F.step (Ce y5 B (vI k2) (vI a2) (vS nm2) (vI n2) (vS s2) (.slice A52 n52 c52) (.slice A62 n62 c62)) (fun x hx => .inr (by simp at hx;omega)));have HP:=Hz (h0.frL (Ce y5 B (vI k2) (vI a2) (vS nm2) (vI n2) (vS s2) (.slice A52 n52 c52) (.slice A62 n62 c62)) sO sO);have HX:Hid (Bw (st7 y5 B (vI k2) (vI a2) (vS nm2) (vI n2) (vS s2) (.slice A52 n52 c52) (.slice A62 n62 c62)) (fun b=>w.heap.size≤b) (.mk k2 a2 nm2 n2 s2 ls2 args2) [vI k2,vI a2,vS nm2,vI n2,vS s2,.slice A52 n52 c52,.slice A62 n62 c62]):=Hz ((hx2).keep (Sh.of_fr (Ce y5 B (vI k2) (vI a2) (vS nm2) (vI n2) (vS s2) (.slice A52 n52 c52) (.slice A62 n62 c62)) (fun b hb hlt=>⟨oM,by simp;omega⟩)));unfold st7 at HG HF HP HX;clear hx2;go_wp2_with fail;generalize ((((((y5.setCell ⟨B,0,none⟩ (vI k2)).setCell ⟨B,1,none⟩ (vI a2)).setCell ⟨B,2,none⟩ (vS nm2)).setCell ⟨B,3,none⟩ (vI n2)).setCell ⟨B,4,none⟩ (vS s2)).setCell ⟨B,5,none⟩ (.slice A52 n52 c52)).setCell ⟨B,6,none⟩ (.slice A62 n62 c62)=Z at HG HF HP HX ⊢;obtain⟨⟨d0,d1,d2,d3,d4,d5,d6⟩,_⟩:=Ao HG.out;refine bodyPost_ret (v:=.agg #[vI k2,vI a2,vS nm2,vI n2,vS s2,.slice A52 n52 c52,.slice A62 n62 c62]) ?_ rfl ?_
 ·exact qq121
 ·exact⟨_,_,_,_,_,_,_,_,_,_,_,_,_,_,rfl,HX.out,by unfold Dd;exact .may_no HT.out HB0.out (.els (.may_no HT.out HB1.out (.els (.may_no HT.out HB2.out (.els (.may_yes HT.out HB3.out (.thn (.may_no hu hb (.els (.callP hr2 (.must_ hv .retP))))))))))),HP.out,HF.out⟩):p:=h
theorem nn595(h:p:=by
 have hBy2:=Aa g0;refine(IHP.out P g c ⟨st.i+1,st.ok⟩ y2 h0 (by have:=HN.out;have:=h0.inb;simp only at this ⊢;omega)).mono ?_;rintro e y3 ⟨k2,a2,nm2,n2,s2,ls2,args2,A52,n52,c52,A62,n62,c62,st2,rfl,hx2,hr2,hst2,fm⟩;have g0:=fm.keep g0 sO;have q0:=fm.keep q0 sO;have F:=F.trans fm;have hs2:=fm.size;have hx2:=hx2.keep (ok':=fun b=>B<b∧¬ b=T∧¬ b=P) (Sh.of_fr (Fr.refl [] y3) (fun b hb hlt=>⟨by have:y2.heap.size≤b:=hb;exact⟨oM,oM,oM⟩,fun x=>by cases x⟩));obtain⟨⟨m0,m1,m2,m3,m4,m5,m6⟩,j0,j1,j2,j3,j4,j5,j6⟩:=Ao q0;have hTx:=Aa q0;have fs:=Ce y3 T (vI k2) (vI a2) (vS nm2) (vI n2) (vS s2) (.slice A52 n52 c52) (.slice A62 n62 c62);have q1:=Dm q0 (vI k2) (vI a2) (vS nm2) (vI n2) (vS s2) (.slice A52 n52 c52) (.slice A62 n62 c62);have g0:=fs.keep g0 sO;have h0:=hst2.frL fs sO sO;have F:=F.step fs (fun x hx => .inr (by simp at hx;omega));have hx2:=hx2.keep (ok':=fun b=>B<b∧¬ b=T∧¬ b=P) (Sh.of_fr fs (fun b hb hlt=>⟨hb,by simp;exact hb.2.1⟩));have HQ:=Hz q1;have HG1:=Hz g0;have HH1:=Hz h0;have HF1:=Hz F;have HX1:=Hz hx2;unfold st7 at HQ HG1 HH1 HF1 HX1;clear q0 q1 g0 h0 F hx2 fs fm hst2;go_wp2_with fail;clear m0 m1 m2 m3 m4 m5 m6 j0 j1 j2 j3 j4 j5 j6
 generalize ((((((y3.setCell ⟨T,0,none⟩ (vI k2)).setCell ⟨T,1,none⟩ (vI a2)).setCell ⟨T,2,none⟩ (vS nm2)).setCell ⟨T,3,none⟩ (vI n2)).setCell ⟨T,4,none⟩ (vS s2)).setCell ⟨T,5,none⟩ (.slice A52 n52 c52)).setCell ⟨T,6,none⟩ (.slice A62 n62 c62)=y4 at *
 have q0:=HQ.out;have g0:=HG1.out;have h0:=HH1.out;have F:=HF1.out;have hx2:=HX1.out;clear HQ HG1 HH1 HF1 HX1;obtain⟨v,hv⟩:=Bn h0.inb;refine(Cp [41] P g c ts st2 v hv y4 h0 HE.out).mono ?_;rintro e y5 ⟨rfl,h0,fm⟩;have g0:=fm.keep g0 sO;have q0:=fm.keep q0 sO;have F:=F.trans fm;have hx2:=hx2.keep (ok':=fun b=>B<b) (Sh.of_fr fm (fun b hb hlt=>⟨hb.1,by simp;exact hb.2.2⟩));clear fm;have kqq252:=@Hz _ @nn504;exact qq252):p:=h
theorem nn677(h:p:=by
 have HG:=Hz (Dm g0 (vI 6) (vI a) (vE) (vI 0) (vE) (vZ) (vZ));have HF:=Hz (F.step (Ce (y2.setCell ⟨T,0,none⟩ (vI 6)) B (vI 6) (vI a) (vE) (vI 0) (vE) (vZ) (vZ)) (fun x hx => .inr (by simp at hx;omega)));have HP:=Hz (h0.frL (Ce (y2.setCell ⟨T,0,none⟩ (vI 6)) B (vI 6) (vI a) (vE) (vI 0) (vE) (vZ) (vZ)) sO sO);unfold st7 at HG HF HP;go_wp2_with fail;generalize (((((((y2.setCell ⟨T,0,none⟩ (vI 6)).setCell ⟨B,0,none⟩ (vI 6)).setCell ⟨B,1,none⟩ (vI a)).setCell ⟨B,2,none⟩ (vE)).setCell ⟨B,3,none⟩ (vI 0)).setCell ⟨B,4,none⟩ (vE)).setCell ⟨B,5,none⟩ (vZ)).setCell ⟨B,6,none⟩ (vZ)=Z at HG HF HP  ⊢;obtain⟨⟨d0,d1,d2,d3,d4,d5,d6⟩,_⟩:=Ao HG.out;have hxx:=Bw.of_rows (w:=Z) (ok:=fun b=>B≤b) (k:=6) (a:=a) (nm:=[]) (n:=0) (s:=[]) (c5:=fun _=>[]) An.nil_ (c6:=fun _=>[]) An.nil_;refine bodyPost_ret (v:=.agg #[vI 6,vI a,vE,vI 0,vE,vZ,vZ]) ?_ rfl ?_
 ·exact qq121
 ·exact⟨_,_,_,_,_,_,_,_,_,_,_,_,_,_,rfl,hxx.keep (Sh.of_fr (Fr.refl [] Z) (fun b hb hlt=>⟨oM,fun x=>by cases x⟩)),by unfold Dd;exact .may_no HT.out HB0.out (.els (.may_no HT.out HB1.out (.els (.may_no HT.out HB2.out (.els (.may_yes HT.out HB3.out (.thn (.may_yes hu hb (.thn .retP))))))))),HP.out,HF.out⟩):p:=h
theorem Vi(ts:List Tok)(hE:Cx ts)(N:Nat)(ihP:GP ts N 2 .pat 108)(P g c:Nat)(st:St)(a:Int)(w:World)(h:PSt P g c ts st w)(hm:16 *(ts.length-st.i)<N+1)(t:Tok)(ht:ts[st.i]?=some t)(hb0:isB t st.ok [[45]]=false)(hb1:isB t st.ok [[116,114,117,101]]=false)(hb2:isB t st.ok [[102,97,108,115,101]]=false)(hb3:isB t st.ok [[40]]=true):Calls prog 160 #[.pointer (some ⟨P,0,none⟩),.agg #[vI 0,vI a,vE,vI 0,vE,vZ,vZ]] w (Tc P g c ts st (Dd (.marked (.mk 0 a [] 0 [] [] []))) w):=by
 have HB0:=Hz hb0;clear hb0;have HB1:=Hz hb1;clear hb1;have HB2:=Hz hb2;clear hb2;have HB3:=Hz hb3;clear hb3;have kqq11:=@Hz _ @nn20;exact qq11
end
end Go.Proofs.YtlafbbnikgcdlaaGreatDoor
