/- A part of the proof: Lx, Lz, P1, P2, P3, Wa, WbC, P7. -/
import Derived.Deep.AppendLies
import Derived.Deep.RegionHeld3
import Derived.RegionTactic
import Derived.ChangeAlike
import Derived.BigRegion
import Derived.BigQuiet
import Derived.Deep.QuietTactic
import Derived.Deep.DrawnRows
import Derived.Test.YtpjkfeehgookkaaGreatDoorGn4
import Derived.Test.YtpjkfeehgookkaaGreatDoorGn6
namespace Go.Proofs.YtpjkfeehgookkaaGreatDoor
open Go.RowKit
open _root_.Go.Proofs.Tryz
set_option linter.all false
set_option maxHeartbeats 16000000
set_option maxRecDepth 100000
open List renaming length_cons→Lc',length_append→La',getElem?_eq_getElem→Lg'
open Nat renaming lt_of_lt_of_le→Nl',le_refl→Nr'
open Bool renaming and_eq_true→Ba'
def Ff(t:Tok):List Value:=[vI t.k,vI t.at',.string ⟨t.text.toArray⟩,vI t.n]
def Ga(ts:List Tok):List Value:=ts.flatMap Ff
theorem J5(ts:List Tok)(t:Tok):Ga (ts++[t])=Ga ts++Ff t:=by simp[Ga]
def I8(B:Nat)(v:Value)(ts:List Tok)(w:World):Prop:=w.ownsRow 0 46 4 v ts.length (Ga ts)∧∀ g,v.ownBlock=some g→B≤g
theorem I8.fr{B:Nat}{v:Value}{ts:List Tok}{w w':World}(h:I8 B v ts w)(hf:Fr [] w w'):I8 B v ts w':=⟨Hj h.1 hf (fun _ _ h=>by cases h),h.2⟩
theorem I8.nil_(B:Nat)(w:World):I8 B (vZ) [] w:=⟨⟨by simp[Ga],.inl ⟨rfl,rfl⟩⟩,fun g hg=>by simp[Value.ownBlock] at hg⟩
theorem I8.none(w:World):I8 w.heap.size (.slice (some ⟨w.heap.size,0,none⟩) 0 0) [] (w.alloc (.cells #[] 46)):=
 ⟨World.ownsRow_lit w #[] 0 (Nat.zero_le _) (by decide) rfl,fun g hg=>by simp[Value.ownBlock] at hg;omega⟩
theorem infoTok:(prog.info? 46).map (fun i=>(i.zero,i.size,i.bytes))=some (some (.agg #[vI 0,vI 0,vE,vI 0]),4,40):=by kernel_rfl
theorem Nc(w:World)(b:Nat)(a0 a1 a2 a3:Value)(T:TypeId)(h:w.heap[b]?=some (.cells #[a0,a1,a2,a3] T (0,0))):∀ (j:Nat)(u:Value),[a0,a1,a2,a3][j]?=some u→w.cell? ((⟨b,0,Option.none⟩:Addr).add j)=some u:=by
 intro j u hj;have hc:=Af h
 match j,hj with
 | 0,hj=>rw[show(⟨b,0,Option.none⟩:Addr).add 0=⟨b,0,Option.none⟩ by simp[Addr.add],hc];simpa using hj
 | 1,hj=>rw[show(⟨b,0,Option.none⟩:Addr).add 1=⟨b,1,Option.none⟩ by simp[Addr.add],hc];simpa using hj
 | 2,hj=>rw[show(⟨b,0,Option.none⟩:Addr).add 2=⟨b,2,Option.none⟩ by simp[Addr.add],hc];simpa using hj
 | 3,hj=>rw[show(⟨b,0,Option.none⟩:Addr).add 3=⟨b,3,Option.none⟩ by simp[Addr.add],hc];simpa using hj
 | j+4,hj=>simp at hj
def O4(r:Except (Int×Nat) (List Tok))(B:Nat)(e:Ending)(w':World):Prop:=match r with
 | .error (er,p)=>e = .returned (.tuple #[vZ,vI er,vI p])
 | .ok ts=>∃ v,e = .returned (.tuple #[v,vI 0,vI 0])∧I8 B v ts w'
def D3(s:ByteArray)(i:Nat):Except (Int×Nat) (List Tok):=Cs s.size i (s.data.toList.drop i)
def Gs(ts:List Tok):Except (Int×Nat) (List Tok)→Except (Int×Nat) (List Tok)
 | .error e => .error e
 | .ok ys => .ok (ts++ys)
theorem Jv(s:ByteArray)(h:s.size≤4096):Bw s.data.toList=D3 s 0:=by
 unfold Bw D3;rw[if_neg (by rw[Ar];omega),List.drop_zero,Ar]
theorem Qc(s:ByteArray):D3 s s.size = .ok [⟨0,s.size,[],0⟩]:=by
 unfold D3;rw[List.drop_of_length_le (by rw[Ar];exact Nr' _)];cases s.size <;> rfl
theorem Mw(s:ByteArray)(i:Nat)(h:i<s.size)(hc:s[i]=32∨s[i]=10):D3 s i=D3 s (i+1):=by
 unfold D3;rw[Cb s i h]
 obtain⟨f,hf⟩:∃ f,s.size=f+1:=⟨s.size-1,by omega⟩
 rw[Fq s.size s.size (f+1) (i+1) (s.data.toList.drop (i+1)) (by rw[Cg];omega) (by rw[Cg];omega) (by rw[Cg];omega),Fq s.size (f+1) f (i+1) (s.data.toList.drop (i+1)) (by rw[Cg];omega) (by rw[Cg];omega) (by rw[Cg];omega),hf,Cs,if_pos hc]
theorem Qd(s:ByteArray)(i:Nat)(h:i<s.size)(hc:¬ (s[i]=32∨s[i]=10)){e:Int}(ht:tok (s.data.toList.drop i)= .error e):D3 s i = .error (e,i):=by
 unfold D3;rw[Cb s i h] at ht ⊢
 obtain⟨f,hf⟩:∃ f,s.size=f+1:=⟨s.size-1,by omega⟩
 rw[hf,Cs,if_neg hc,ht]
theorem Qe(s:ByteArray)(i:Nat)(h:i<s.size)(hc:¬ (s[i]=32∨s[i]=10)){k:Int}{t:LB}{n:Int}{m:Nat}(ht:tok (s.data.toList.drop i)= .ok (k,t,n,m))(ts:List Tok):
  Gs ts (D3 s i)=Gs (ts++[⟨k,i,t,n⟩]) (D3 s (i+m)):=by
 have hm:=Ex ht;rw[Cg] at hm
 have e2:D3 s (i+m)=Cs (s.size-1) (i+m) (s.data.toList.drop (i+m)):=by
  unfold D3;exact Fq s.size _ _ _ _ (by rw[Cg];omega) (by rw[Cg];omega) (by rw[Cg];omega)
 rw[e2];unfold D3;have hd:(s.data.toList.drop i).drop m=s.data.toList.drop (i+m):=by rw[List.drop_drop]
 rw[Cb s i h] at ht hd ⊢
 obtain⟨f,hf⟩:∃ f,s.size=f+1:=⟨s.size-1,by omega⟩
 rw[show Cs s.size i=Cs (f+1) i by rw[hf],Cs,if_neg hc,ht];simp only[hd];rw[show s.size-1=f by omega]
 cases Cs f (i+m) (s.data.toList.drop (i+m))with
 | error e=>rfl
 | ok ys=>simp[Gs]
theorem Ks(r:Except (Int×Nat) (List Tok)):Gs [] r=r:=by cases r <;> rfl
theorem Lex_big(s:ByteArray)(hs:s.size≤9223372036854775807)(hb:4096<s.size)(w:World):
  Calls prog 18 #[.string s] w fun e w'=>O4 (Bw s.data.toList) w.heap.size e w'∧Fr [] w w':=by
 have h0:Bw s.data.toList = .error (4,0):=by unfold Bw;rw[if_pos (by rw[Ar];exact hb)]
 rw[h0];go_enter func18,ntmps18;go_wp2_with fail
 go_ret3
 exact⟨rfl,Fr.refl _ _⟩
theorem Pf(s:ByteArray)(hs:s.size≤4096)(w:World)(hE:E2 w):
  Calls prog 18 #[.string s] w fun e w'=>O4 (Bw s.data.toList) w.heap.size e w'∧Fr [] w w':=by
 obtain⟨i0,hi,hz0,hz1,hz2⟩:=info_parts infoTok;have H0:=Hz ((Ks _).symm.trans (congrArg (Gs []) (Jv s hs)).symm).symm;have HA:Hid (Gs [] (D3 s 0)=Bw s.data.toList):=Hz (by rw[Ks,Jv s hs]);clear H0
 generalize Bw s.data.toList=R at *
 go_enter func18,ntmps18;go_wp2_with fail
 go_loopw [5,6] (fun v i wr=>∃ (k:Nat) (ts:List Tok),k≤s.size∧i=vI k∧I8 w.heap.size v ts wr∧ts.length≤k∧Fr [] w wr∧Hid (Gs ts (D3 s k)=R)) (fun _ i _=>s.size-(intOf i).toNat)
 case atStart=>exact⟨0,[],Nat.zero_le _,rfl,I8.nil_ _ _,Nr' _,Fr.refl _ _,HA⟩
 case round =>
  obtain⟨k,ts,hk,rfl,⟨hown,hog⟩,hlen,hf,HR⟩:=hrel;clear HA;by_cases hlt:k<s.size
  ·by_cases hbl:s[k]=32∨s[k]=10
   ·have HR2:Hid (Gs ts (D3 s (k+1))=R):=Hz (by rw[← Mw s k hlt hbl];exact HR.out)
    have key:(((s[k].toNat:Nat):Int)==32)=true∨((((s[k].toNat:Nat):Int)==32)=false∧(((s[k].toNat:Nat):Int)==10)=true):=by
     rcases hbl with h|h
     ·left;rw[h];rfl
     ·right;rw[h];exact⟨rfl,rfl⟩
    clear hbl
    rcases key with b1|⟨b1,b2⟩
    all_goals
     go_wp2_with fail
     go_roundw
     case rel=>exact⟨k+1,ts,by omega,by go_num,⟨hown,hog⟩,by omega,hf,HR2⟩
     case measure=>simp[intOf];omega
   ·have b1:(((s[k].toNat:Nat):Int)==32)=false:=Ox (n:=32) (by omega) (fun h=>hbl (.inl h));have b2:(((s[k].toNat:Nat):Int)==10)=false:=Ox (n:=10) (by omega) (fun h=>hbl (.inr h));have hx:(s.extract k s.size).data.toList=s.data.toList.drop k:=by rw[Lib.extract_to_end s k]
    have hxs:(s.extract k s.size).size=s.size-k:=by rw[← Ar,hx,Cg]
    have c1:=fun w hE=>Hz (one_any (s.extract k s.size) (by omega) (by omega) w hE)
    rw[hx] at c1;have hEr:=hE.fr hf;clear hx hxs
    cases ht:tok (s.data.toList.drop k)with
    | error er =>
     have hR:=Hz (HR.out.symm.trans (congrArg (Gs ts) (Qd s k hlt hbl ht)));have her:¬ er=0:=by rcases M9 ht with h|h <;> omega
     rw[ht] at c1;clear ht hbl HR;go_wp2_with fail;refine(c1 _ hEr).out.mono ?_;rintro e x1 ⟨⟨ek,ea,et,en,v2,rfl⟩,f1⟩;unfold C8;go_wp2_with fail
     go_ret3
     refine⟨?_,(hf.trans f1).alloc _⟩;rw[hR.out]
     exact rfl
    | ok x =>
     obtain⟨kd,tx,n,m⟩:=x;have hm:=Ex ht;rw[Cg] at hm;have HR2:Hid (Gs (ts++[⟨kd,k,tx,n⟩]) (D3 s (k+m))=R):=Hz (by rw[← Qe s k hlt hbl ht];exact HR.out);rw[ht] at c1;clear ht hbl HR;go_wp2_with fail;refine(c1 _ hEr).out.mono ?_;rintro e x1 ⟨he,f1⟩;have he:e = .returned (.tuple #[C8 kd 0 tx n,vI ((0+m:Nat):Int),vI 0]):=he;rw[Nat.zero_add] at he;subst he;unfold C8;have hown1:=Hj hown f1 (fun _ _ h=>by cases h);go_wp2_with (at_builtin;refine Dj _ rfl _ _ 41 rfl 46 i0 _ 4 40 underlying41 hi hz0 hz1 hz2 rfl (by decide) _ _ _ rfl ((hown1.alloc _).alloc _) ⟨x1.heap.size+1,0,none⟩ 1 1 [vI kd,vI k,vS tx,vI n] rfl rfl ?c1 ?c2 ?c3 ?c4 ?_)
     case c1 =>
      refine Nc _ _ _ _ _ _ 46 ?_;have:=Ab (x1.alloc (.cells #[vI kd,vI k,vS tx,vI n] 46)) (.cells #[vI kd,vI k,vS tx,vI n] 46);rw[World.size_alloc] at this;exact this
     case c2=>intro u hu;simp at hu;rcases hu with rfl|rfl|rfl|rfl <;> rfl
     case c3=>unfold maxLen;omega
     case c4=>omega
     intro v' w2 hown2 hgrow hfp;have hf2:Fr [] w w2:=(((hf.trans f1).alloc _).alloc _).append hgrow (fun g hg => .inr (hog g hg))
     have hog2:∀ g,v'.ownBlock=some g→w.heap.size≤g:=fun g hg=>by
      rcases hfp g hg with h|h
      ·exact hog g h
      ·have:=hf.size;have:=f1.size;(try simp only[World.size_alloc] at h);omega
     have hown3:w2.ownsRow 0 46 4 v' (ts++[(⟨kd,k,tx,n⟩:Tok)]).length (Ga (ts++[(⟨kd,k,tx,n⟩:Tok)])):=by
      rw[J5,La'];exact hown2
     clear hown2 hgrow hfp hown1 hown;go_wp2_with fail
     go_roundw
     case rel=>exact⟨k+m,ts++[⟨kd,k,tx,n⟩],by omega,by go_num,⟨hown3,hog2⟩,by rw[La',List.length_singleton];omega,hf2,HR2⟩
     case measure=>simp[intOf];omega
  ·have hke:k=s.size:=by omega
   subst hke;have hR:=Hz (HR.out.symm.trans (congrArg (Gs ts) (Qc s)));go_wp2_with (at_builtin;refine Dj _ rfl _ _ 41 rfl 46 i0 _ 4 40 underlying41 hi hz0 hz1 hz2 rfl (by decide) _ _ _ rfl (hown.alloc _) ⟨wr.heap.size,0,none⟩ 1 1 [vI 0,vI s.size,vE,vI 0] rfl rfl ?d1 ?d2 ?d3 ?d4 ?_)
   case d1=>exact Nc _ _ _ _ _ _ 46 (Ab wr _)
   case d2=>intro u hu;simp at hu;rcases hu with rfl|rfl|rfl|rfl <;> rfl
   case d3=>unfold maxLen;omega
   case d4=>omega
   intro v' w2 hown2 hgrow hfp;have hf2:Fr [] w w2:=(hf.alloc _).append hgrow (fun g hg => .inr (hog g hg))
   have hog2:∀ g,v'.ownBlock=some g→w.heap.size≤g:=fun g hg=>by
    rcases hfp g hg with h|h
    ·exact hog g h
    ·have:=hf.size;(try simp only[World.size_alloc] at h);omega
   have hown3:w2.ownsRow 0 46 4 v' (ts++[(⟨0,s.size,[],0⟩:Tok)]).length (Ga (ts++[(⟨0,s.size,[],0⟩:Tok)])):=by
    rw[J5,La'];exact hown2
   clear hown2 hgrow hfp hown;go_wp2_with fail
   go_ret3
   refine⟨?_,hf2⟩;rw[hR.out];exact⟨v',rfl,hown3,hog2⟩
theorem Lex_any(s:ByteArray)(hs:s.size≤9223372036854775807)(w:World)(hE:E2 w):
  Calls prog 18 #[.string s] w fun e w'=>O4 (Bw s.data.toList) w.heap.size e w'∧Fr [] w w':=by
 by_cases h:s.size≤4096
 ·exact Pf s h w hE
 ·exact Lex_big s hs (by omega) w
structure RT (g:Nat)(ts:List Tok)(w:World):Prop where
 c0:∀ (k:Nat) (t:Tok),ts[k]?=some t→w.cell? ⟨g,k * 4,none⟩=some (vI t.k)
 c1:∀ (k:Nat) (t:Tok),ts[k]?=some t→w.cell? ⟨g,k * 4+1,none⟩=some (vI t.at')
 c2:∀ (k:Nat) (t:Tok),ts[k]?=some t→w.cell? ⟨g,k * 4+2,none⟩=some (.string ⟨t.text.toArray⟩)
 c3:∀ (k:Nat) (t:Tok),ts[k]?=some t→w.cell? ⟨g,k * 4+3,none⟩=some (vI t.n)
theorem Ng:∀ (ts:List Tok)(k j:Nat)(t:Tok),ts[k]?=some t→j<4→(Ga ts)[k * 4+j]?=(Ff t)[j]?
 | [],k,j,t,h,_=>by simp at h
 | u::ts,0,j,t,h,hj=>by
  simp at h;subst h;have e:Ga (u::ts)=Ff u++Ga ts:=rfl
  rw[e,Nat.zero_mul,Nat.zero_add,List.getElem?_append_left (by simp[Ff];omega)]
 | u::ts,k+1,j,t,h,hj=>by
  have e:Ga (u::ts)=Ff u++Ga ts:=rfl;have h':ts[k]?=some t:=by simpa using h
  have hl:(Ff u).length=4:=rfl;rw[e,List.getElem?_append_right (by rw[hl];omega),hl,← Ng ts k j t h' hj]
  congr 1
  omega
theorem Pt{B:Nat}{v:Value}{ts:List Tok}{w:World}(h:I8 B v ts w)(hne:ts≠[]):∃ g c,v = .slice (some ⟨g,0,none⟩) ts.length c∧B≤g∧g<w.heap.size∧RT g ts w:=by
 have hl:0<ts.length:=List.length_pos_iff.2 hne;obtain⟨g,cap,hv,_,hlt⟩:=World.ownsRow.form h.1 hl;subst hv;have hc:=fun(k j:Nat) (t:Tok) (hk:ts[k]?=some t) (hj:j<4)=>(World.ownsRow.cellAt h.1 (k * 4+j) (by have:=(List.getElem?_eq_some_iff.1 hk).1;omega)).trans (Ng ts k j t hk hj)
 exact⟨g,cap,rfl,h.2 g rfl,hlt,⟨fun k t hk=>hc k 0 t hk (by omega),fun k t hk=>hc k 1 t hk (by omega),fun k t hk=>hc k 2 t hk (by omega),fun k t hk=>hc k 3 t hk (by omega)⟩⟩
theorem RT.fr{g:Nat}{ts:List Tok}{w w':World}(h:RT g ts w)(hf:Fr [] w w')(hg:g<w.heap.size):RT g ts w' :=
 ⟨fun k t hk=>(hf.cell (p:=⟨g,k * 4,none⟩) hg (fun x=>by cases x)).trans (h.c0 k t hk),fun k t hk=>(hf.cell (p:=⟨g,k * 4+1,none⟩) hg (fun x=>by cases x)).trans (h.c1 k t hk),fun k t hk=>(hf.cell (p:=⟨g,k * 4+2,none⟩) hg (fun x=>by cases x)).trans (h.c2 k t hk),fun k t hk=>(hf.cell (p:=⟨g,k * 4+3,none⟩) hg (fun x=>by cases x)).trans (h.c3 k t hk)⟩
theorem tok_bd{l:LB}{k:Int}{t:LB}{n:Int}{m:Nat}(h:tok l = .ok (k,t,n,m)):t.length≤l.length∧0≤n∧n≤4611686018427387903:=by
 have hr:∀ x,0≤Ci x∧Ci x≤4611686018427387903:=by
  intro x;unfold Ci;split
  ·rename_i h;omega
  ·omega
 unfold tok at h;split at h
 ·cases h
 ·rename_i c r
  have hle:=Fi (c::r);have hle2:=Fi r;split at h
  ·simp only[Except.ok.injEq,Prod.mk.injEq] at h;obtain⟨_,rfl,rfl,_⟩:=h;omega
  ·split at h
   ·simp only[Except.ok.injEq,Prod.mk.injEq] at h;obtain⟨_,rfl,rfl,_⟩:=h;omega
   ·split at h
    ·simp only[Except.ok.injEq,Prod.mk.injEq] at h;obtain⟨_,rfl,rfl,_⟩:=h;simp only[Lc'];omega
    ·split at h
     ·split at h
      ·simp only[Except.ok.injEq,Prod.mk.injEq] at h;obtain⟨_,rfl,rfl,_⟩:=h;have:=hr (Bn (c::r));exact⟨by simp,this.1,this.2⟩
      ·cases h
     ·split at h
      ·split at h
       ·cases h
       ·rename_i j hq
        split at h
        ·cases h
        ·rename_i u hu
         simp only[Except.ok.injEq,Prod.mk.injEq] at h;obtain⟨_,rfl,rfl,_⟩:=h;have h1:=H4 hu;have h2:=G5 u;have h3:=congrArg List.length h1;simp only[Dk,Lc',La',List.length_take] at h3;simp only[Lc'];omega
      ·split at h
       ·cases h
       ·rename_i x hx
        simp only[Except.ok.injEq,Prod.mk.injEq] at h;obtain⟨_,rfl,rfl,_⟩:=h;have hp:=(List.isPrefixOf_iff_prefix.1 (List.find?_some (p:=fun x:LB=>x.isPrefixOf (c::r)) hx)).length_le;omega
structure Ow (M:Nat)(t:Tok):Prop where
 k0:0≤t.k
 k1:t.k≤7
 a:t.at'≤M
 x:t.text.length≤M
 n0:0≤t.n
 n1:t.n≤4611686018427387903
 l:(Eb t.k t.text t.n).length≤M
theorem lexL_bd{f a:Nat}{l:LB}{ts:List Tok}(h:Cs f a l = .ok ts):ts.length≤l.length+1∧∀ t ∈ ts,Ow (a+l.length) t:=by
 refine Hn (P:=fun a l ts=>ts.length≤l.length+1∧∀ t ∈ ts,Ow (a+l.length) t) ?_ ?_ ?_ f a l ts h
 ·intro a;refine⟨by simp,fun t ht=>?_⟩;rw[List.mem_singleton] at ht;subst ht;exact⟨Int.le_refl 0,by simp only;omega,by simp,by simp,Int.le_refl 0,by simp only;omega,by simp[Eb]⟩
 ·rintro a c r ts _ ⟨h1,h2⟩;refine⟨by rw[Lc'];omega,fun t ht=>?_⟩;have:=h2 t ht;rw[Lc',show a+(r.length+1)=a+1+r.length by omega];exact this
 ·rintro a c r k t n m ts _ ht ⟨h1,h2⟩;have hm:=Ex ht;have hk:=Na ht;have hb:=tok_bd ht;have hl:=Nb ht;rw[List.length_drop] at h1;refine⟨by rw[Lc'];omega,fun u hu=>?_⟩;rcases List.mem_cons.1 hu with rfl|hu
  ·exact⟨by simp only;omega,hk.2,by simp only;omega,by simp only;omega,hb.2.1,hb.2.2,by simp only;omega⟩
  ·have:=h2 u hu;rw[List.length_drop,show a+m+((c::r).length-m)=a+(c::r).length by omega] at this;exact this
theorem Hp{s:LB}{ts:List Tok}(h:Bw s = .ok ts):s.length≤4096∧Cs s.length 0 s = .ok ts∧ts.length≤4097∧(∀ t ∈ ts,Ow 4096 t)∧∃ ys,ts=ys++[⟨0,s.length,[],0⟩]∧∀ y ∈ ys,Qx y:=by
 unfold Bw at h;split at h
 ·cases h
 ·rename_i hs
  have hb:=lexL_bd h;obtain⟨ys,hy,hg⟩:=Ic h;refine⟨by omega,h,by omega,fun t ht=>?_,ys,by rw[hy,Nat.zero_add],hg⟩;have:=hb.2 t ht;exact⟨this.k0,this.k1,by have:=this.a;omega,by have:=this.x;omega,this.n0,this.n1,by have:=this.l;omega⟩
theorem Ki{s:LB}{e:Int}{p:Nat}(h:Bw s = .error (e,p)):(4096<s.length∧e=4∧p=0)∨(s.length≤4096∧p<s.length∧(e=20∨e=2)∧Cs s.length 0 s = .error (e,p)):=by
 unfold Bw at h;split at h
 ·rename_i hs;cases h;exact .inl ⟨hs,rfl,rfl⟩
 ·rename_i hs
  have:=Jn s.length 0 s e p (Nr' _) h;exact .inr ⟨by omega,by omega,this.2.2,h⟩
def lexF(r:Except (Int×Nat) (List Tok))(e:Ending)(w':World):Prop:=match r with
 | .error (er,p)=>e = .returned (.tuple #[vZ,vI er,vI p])
 | .ok ts=>∃ g c,e = .returned (.tuple #[.slice (some ⟨g,0,none⟩) ts.length c,vI 0,vI 0])∧g<w'.heap.size∧RT g ts w'
theorem lexF_of{s:LB}{B:Nat}{e:Ending}{w':World}(h:O4 (Bw s) B e w'):lexF (Bw s) e w':=by
 cases hl:Bw s with
 | error x=>rw[hl] at h;exact h
 | ok ts =>
  rw[hl] at h;obtain⟨v,rfl,hO⟩:=h;obtain⟨_,_,_,_,ys,rfl,_⟩:=Hp hl;obtain⟨g,c,rfl,_,hg,hR⟩:=Pt hO (by simp);exact⟨g,c,rfl,hg,hR⟩
theorem Lex_f(s:ByteArray)(hs:s.size≤9223372036854775807)(w:World)(hE:E2 w):
  Calls prog 18 #[.string s] w fun e w'=>lexF (Bw s.data.toList) e w'∧Fr [] w w' :=
 (Lex_any s hs w hE).mono fun _ _ h=>⟨lexF_of h.1,h.2⟩
theorem Lex_ok(s:ByteArray)(hs:s.size≤9223372036854775807){ts:List Tok}(h:Bw s.data.toList = .ok ts)(w:World)(hE:E2 w):
  Calls prog 18 #[.string s] w fun e w'=>(∃ g c,e = .returned (.tuple #[.slice (some ⟨g,0,none⟩) ts.length c,vI 0,vI 0])∧g<w'.heap.size∧RT g ts w')∧Fr [] w w' :=
 (Lex_f s hs w hE).mono fun _ _ h'=>by rw[h] at h';exact h'
theorem Lex_er(s:ByteArray)(hs:s.size≤9223372036854775807){er:Int}{p:Nat}(h:Bw s.data.toList = .error (er,p))(w:World)(hE:E2 w):
  Calls prog 18 #[.string s] w fun e w'=>e = .returned (.tuple #[vZ,vI er,vI p])∧Fr [] w w' :=
 (Lex_f s hs w hE).mono fun _ _ h'=>by rw[h] at h';exact h'
def Dc(g:Nat)(l:List LB)(w:World):Prop:=∀ (i:Nat)(x:LB),l[i]?=some x→w.cell? ⟨g,i,none⟩=some (vS x)
def IdxP(b:Bool)(w:World)(e:Ending)(w':World):Prop:=∃ n:Int,e = .returned (vI n)∧decide (0≤n)=b∧w=w'
theorem Pe(g c:Nat)(l:List LB)(x:ByteArray)(hl:l.length≤1000)(w:World)(h:Dc g l w):
  Calls prog 109 #[.slice (some ⟨g,0,none⟩) l.length c,.string x] w (IdxP (l.contains x.data.toList) w):=by
 have HX:Hid (∀ j (hj:j<l.length),l[j]=x.data.toList→l.contains x.data.toList=true):=Hz (fun j hj e=>List.contains_iff_mem.2 (e ▸ List.getElem_mem hj))
 have HN:Hid ((∀ j (hj:j<l.length),l[j]≠x.data.toList)→l.contains x.data.toList=false):=Hz (fun hn=>by
  rw[Bool.eq_false_iff]
  intro hc
  obtain⟨j,hj,e⟩:=List.mem_iff_getElem.1 (List.contains_iff_mem.1 hc)
  exact hn j hj e)
 generalize l.contains x.data.toList=R at *
 have HC:=Hz h;clear h;go_enter func109,ntmps109;go_wp2_with fail
 go_loop [8] (fun i=>∃ k:Nat,i=vI k∧k≤l.length∧Hid (∀ j (hj:j<l.length),j<k→l[j]≠x.data.toList)) (fun i=>l.length-(intOf i).toNat)
 case atStart=>exact⟨0,rfl,by omega,Hz (fun j _ h=>absurd h (by omega))⟩
 case round =>
  obtain⟨k,rfl,hk,HK⟩:=hrel;by_cases hlt:k<l.length
  ·have hcell:=HC.out k _ (Lg' hlt);have HX1:=Hz (HX.out k hlt)
   have HS:l[k]≠x.data.toList→Hid (∀ j (hj:j<l.length),j<k+1→l[j]≠x.data.toList):=fun hne=>Hz (fun j hj h=>by
    rcases Nat.lt_or_ge j k with h1|h1
    ·exact HK.out j hj h1
    ·have:j=k:=by omega
     subst this;exact hne)
   by_cases hq:l[k]=x.data.toList
   ·have hR:=HX1.out hq;subst hR;have hq2:(x.toList==l[k])=true:=by rw[ByteArray.toList_eq,hq];simp
    clear hq HX HN HS HX1 HK
    generalize l[k]=y at *
    go_wp2_with fail;go_ret;exact⟨k,rfl,by simp,rfl⟩
   ·have HS2:=HS hq;have hq2:(x.toList==l[k])=false:=by rw[ByteArray.toList_eq,bN];exact fun h=>hq h.symm
    clear hq HS HX1
    generalize l[k]=y at *
    go_wp2_with fail
    go_round
    case rel=>exact⟨k+1,by go_num,by omega,HS2⟩
    case measure=>simp[intOf];omega
  ·have hR:=HN.out (fun j hj=>HK.out j hj (by omega));subst hR;go_wp2_with fail;go_ret;exact⟨-1,rfl,by decide,rfl⟩
theorem I9(g c:Nat)(l:List LB)(x:ByteArray)(hl:l.length≤1000)(w:World)(h:Dc g l w):
  Calls prog 83 #[.slice (some ⟨g,0,none⟩) l.length c,.string x] w fun e w'=>e = .returned (.bool (l.contains x.data.toList))∧w=w':=by
 have ci:=Hz (Pe g c l x hl w h)
 generalize l.contains x.data.toList=R at *
 clear h;go_enter func83,ntmps83;go_wp2_with fail;refine ci.out.mono ?_;rintro e w1 ⟨n,rfl,rfl,rfl⟩;go_wp2_with fail;go_ret;exact⟨rfl,rfl⟩
structure PSt (P g c:Nat)(ts:List Tok)(st:St)(w:World):Prop where
 blk:w.heap[P]?=some (.cells #[.slice (some ⟨g,0,none⟩) ts.length c,vI (st.i:Nat),.bool st.ok] 52 (0,0))
 rt:RT g ts w
 lt:g<w.heap.size
 ne:g≠P
 inb:st.i<ts.length
theorem PSt.fr{P g c:Nat}{ts:List Tok}{st:St}{w w':World}(h:PSt P g c ts st w)(hf:Fr [] w w'):PSt P g c ts st w' :=
 ⟨hf.keep h.blk (fun x=>by cases x),h.rt.fr hf h.lt,Nl' h.lt hf.size,h.ne,h.inb⟩
theorem RT.frL{g:Nat}{ts:List Tok}{w w':World}{L:List Nat}(h:RT g ts w)(hf:Fr L w w')(hg:g<w.heap.size)(hn:g ∉ L):RT g ts w' :=
 ⟨fun k t hk=>(hf.cell (p:=⟨g,k * 4,none⟩) hg hn).trans (h.c0 k t hk),fun k t hk=>(hf.cell (p:=⟨g,k * 4+1,none⟩) hg hn).trans (h.c1 k t hk),fun k t hk=>(hf.cell (p:=⟨g,k * 4+2,none⟩) hg hn).trans (h.c2 k t hk),fun k t hk=>(hf.cell (p:=⟨g,k * 4+3,none⟩) hg hn).trans (h.c3 k t hk)⟩
def Be(ts:List Tok):Prop:=ts.length≤4097∧∀ (i:Nat)(t:Tok),ts[i]?=some t→(t.k≠0↔i+1<ts.length)∧Ow 4096 t
theorem C2{x:World}{B:Nat}{T:TypeId}{a b c:Value}(h:x.heap[B]?=some (.cells #[a,b,c] T (0,0))):
  x.cell? ⟨B,0,none⟩=some a∧x.cell? ⟨B,1,none⟩=some b∧x.cell? ⟨B,2,none⟩=some c∧x.frozen? ⟨B,0,none⟩=false∧x.frozen? ⟨B,1,none⟩=false∧x.frozen? ⟨B,2,none⟩=false :=
 ⟨Af h 0,Af h 1,Af h 2,Ap h 0,Ap h 1,Ap h 2⟩
theorem Bd(P g c:Nat)(ts:List Tok)(st:St)(t:Tok)(ht:ts[st.i]?=some t)(w:World)(h:PSt P g c ts st w)(hE:Be ts):
  Calls prog 21 #[.pointer (some ⟨P,0,none⟩)] w fun e w'=>e = .returned (.agg #[vI t.k,vI t.at',.string ⟨t.text.toArray⟩,vI t.n])∧Fr [] w w':=by
 obtain⟨p0,p1,p2,_⟩:=C2 h.blk;have a0:=h.rt.c0 _ _ ht;have a1:=h.rt.c1 _ _ ht;have a2:=h.rt.c2 _ _ ht;have a3:=h.rt.c3 _ _ ht;have hin:=h.inb;have hts:=hE.1;have hP:=Aa h.blk;have hg:=h.lt;clear ht h hE;obtain⟨i,ok⟩:=st
 simp only at *
 obtain⟨tk,ta,tt,tn⟩:=t
 simp only at *
 have q1:(0:Int)≤(i:Int):=by omega
 have q2:(i:Int)<(ts.length:Int):=by omega
 go_enter func21,ntmps21;go_wp2_with fail;have f0:Fr [] w (w.alloc (.cells #[vI 0,vI 0,vE,vI 0] 46)):=(Fr.refl [] w).alloc _;have g0:=Ab w (.cells #[vI 0,vI 0,vE,vI 0] 46);have p0:=(f0.cell (p:=⟨P,0,none⟩) hP (fun x=>by cases x)).trans p0;have p1:=(f0.cell (p:=⟨P,1,none⟩) hP (fun x=>by cases x)).trans p1;have a0:=(f0.cell (p:=⟨g,i * 4,none⟩) hg (fun x=>by cases x)).trans a0;have a1:=(f0.cell (p:=⟨g,i * 4+1,none⟩) hg (fun x=>by cases x)).trans a1;have a2:=(f0.cell (p:=⟨g,i * 4+2,none⟩) hg (fun x=>by cases x)).trans a2;have a3:=(f0.cell (p:=⟨g,i * 4+3,none⟩) hg (fun x=>by cases x)).trans a3
 generalize (w.alloc (.cells #[vI 0,vI 0,vE,vI 0] 46))=w1 at *
 generalize hB:w.heap.size=B at *
 obtain⟨c0,c1,c2,c3,z0,z1,z2,z3⟩:=Am g0;have gz:=Gc g0 (vI tk) (vI ta) (vS tt) (vI tn);have fz:=f0.store4 hB (vI tk) (vI ta) (vS tt) (vI tn);have HG:=Hz gz;have HF:=Hz fz;clear gz fz g0 f0;have n1:¬ P=B:=by omega
 have n2:¬ B=P:=by omega
 have n3:¬ g=B:=by omega
 have n4:¬ B=g:=by omega
 go_region_held3 (fun w'=>w'.cell? ⟨P,0,none⟩=some (.slice (some ⟨g,0,none⟩) ts.length c)∧w'.cell? ⟨P,1,none⟩=some (vI i)∧w'.cell? ⟨g,i * 4,none⟩=some (vI tk)∧w'.cell? ⟨g,i * 4+1,none⟩=some (vI ta)∧w'.cell? ⟨g,i * 4+2,none⟩=some (vS tt)∧w'.cell? ⟨g,i * 4+3,none⟩=some (vI tn)) (go_keep) (fail)
 generalize (((w1.setCell ⟨B,0,none⟩ (vI tk)).setCell ⟨B,1,none⟩ (vI ta)).setCell ⟨B,2,none⟩ (vS tt)).setCell ⟨B,3,none⟩ (vI tn)=Z at HG HF ⊢;obtain⟨d0,d1,d2,d3,_⟩:=Am HG.out;go_wp2_with fail;refine bodyPost_ret (v:=.agg #[vI tk,vI ta,vS tt,vI tn]) ?_ rfl ?_
 ·simp[results,Tryz.f21,go_sem,d0,d1,d2,d3]
 ·exact⟨rfl,HF.out.drew⟩
theorem Bi{x:World}{B:Nat}{T:TypeId}{cs:Array Value}(h:x.heap[B]?=some (.cells cs T (0,0)))(i:Nat)(v:Value):(x.setCell ⟨B,i,none⟩ v).heap[B]?=some (.cells (cs.setIfInBounds i v) T (0,0)):=by
 simp[World.setCell,Array.getElem?_modify,h]
theorem PSt.set1{P g c:Nat}{ts:List Tok}{st:St}{w:World}(h:PSt P g c ts st w)(hi:st.i+1<ts.length)(n:Int)(hn:n=((st.i+1:Nat):Int)):PSt P g c ts ⟨st.i+1,st.ok⟩ (w.setCell ⟨P,1,none⟩ (vI n)):=by
 have hf:Fr [P] w (w.setCell ⟨P,1,none⟩ (vI n)):=(Fr.refl [P] w).setCell (.inl (by simp)) _;subst hn;exact⟨by have:=Bi h.blk 1 (vI ((st.i+1:Nat):Int));simpa using this,h.rt.frL hf h.lt (by simpa using h.ne),Nl' h.lt hf.size,h.ne,hi⟩
theorem PSt.set2{P g c:Nat}{ts:List Tok}{st:St}{w:World}(h:PSt P g c ts st w):PSt P g c ts ⟨st.i,false⟩ (w.setCell ⟨P,2,none⟩ (.bool false)):=by
 have hf:Fr [P] w (w.setCell ⟨P,2,none⟩ (.bool false)):=(Fr.refl [P] w).setCell (.inl (by simp)) _;exact⟨by have:=Bi h.blk 2 (.bool false);simpa using this,h.rt.frL hf h.lt (by simpa using h.ne),Nl' h.lt hf.size,h.ne,h.inb⟩
theorem PSt.own{P g c:Nat}{ts:List Tok}{st:St}{w:World}(h:PSt P g c ts st w){p:Addr}(hp:P≠p.block)(hg:g≠p.block)(v:Value):PSt P g c ts st (w.setCell p v):=by
 have hf:Fr [p.block] w (w.setCell p v):=(Fr.refl [p.block] w).setCell (.inl (by simp)) _;exact⟨hf.keep h.blk (by simpa using hp),h.rt.frL hf h.lt (by simpa using hg),Nl' h.lt hf.size,h.ne,h.inb⟩
theorem Fn(P g c:Nat)(ts:List Tok)(st:St)(w:World)(h:PSt P g c ts st w):
  Calls prog 82 #[.pointer (some ⟨P,0,none⟩)] w fun e w'=>e = .returned (.tuple #[])∧PSt P g c ts ⟨st.i,false⟩ w'∧Fr [P] w w':=by
 have h2:=Hz h.set2;have hf:Fr [P] w (w.setCell ⟨P,2,none⟩ (.bool false)):=(Fr.refl [P] w).setCell (.inl (by simp)) _;obtain⟨p0,p1,p2,y0,y1,y2⟩:=C2 h.blk;clear h;go_enter func82,ntmps82;go_wp2_with fail
 go_end0
 exact⟨rfl,h2.out,hf⟩
theorem Ch(P g c:Nat)(ts:List Tok)(st:St)(t:Tok)(ht:ts[st.i]?=some t)(hok:st.ok=true)(hk:t.k≠0)(w:World)(h:PSt P g c ts st w)(hE:Be ts):
  Calls prog 59 #[.pointer (some ⟨P,0,none⟩)] w fun e w'=>e = .returned (.agg #[vI t.k,vI t.at',.string ⟨t.text.toArray⟩,vI t.n])∧PSt P g c ts ⟨st.i+1,st.ok⟩ w'∧Fr [P] w w':=by
 have hi1:=(hE.2 _ _ ht).1.1 hk;have cn:=fun w h=>Hz (Bd P g c ts st t ht w h hE)
 have hts:=hE.1;have hP:=Aa h.blk;have hgl:=h.lt;have H:=Hz h;clear h hE ht;obtain⟨i,ok⟩:=st;simp only at hok hi1;subst hok;obtain⟨tk,ta,tt,tn⟩:=t;simp only at hk cn ⊢;have d0:(tk != 0)=true:=by rw[bne_iff_ne];exact hk
 have d00:(tk==0)=false:=by rw[bN];exact hk
 clear hk;go_enter func59,ntmps59;go_wp2_with fail;have f0:Fr [] w (w.alloc (.cells #[vI 0,vI 0,vE,vI 0] 46)):=(Fr.refl [] w).alloc _;have g0:=Ab w (.cells #[vI 0,vI 0,vE,vI 0] 46)
 generalize (w.alloc (.cells #[vI 0,vI 0,vE,vI 0] 46))=w1 at *
 generalize hB:w.heap.size=B at *
 refine(cn _ (H.out.fr f0)).out.mono ?_;rintro e x1 ⟨rfl,f1⟩;have g1:=f1.keep g0 nE;have h1:=H.out.fr (f0.trans f1);have hP1:=Aa h1.blk;have hB1:=Aa g1;obtain⟨p0,p1,p2,y0,y1,y2⟩:=C2 h1.blk;obtain⟨c0,c1,c2,c3,z0,z1,z2,z3⟩:=Am g1;have n1:¬ P=B:=by omega
 have n2:¬ B=P:=by omega
 have n7:¬ g=B:=by omega
 have n8:¬ P=x1.heap.size:=by omega
 have n9:¬ B=x1.heap.size:=by omega
 have g0':=(Fr.setCell (L:=[P]) (Fr.refl [P] x1) (p:=⟨P,1,none⟩) (.inl (by simp)) (vI ((i:Int)+1))).keep g1 (by simpa using n2);have HG:=Hz (Gc g0' (vI tk) (vI ta) (vS tt) (vI tn));have HP:=Hz ((((h1.set1 hi1 ((i:Int)+1) (by simp)).own (p:=⟨B,0,none⟩) n1 n7 (vI tk)).own (p:=⟨B,1,none⟩) n1 n7 (vI ta)).own (p:=⟨B,2,none⟩) n1 n7 (vS tt)|>.own (p:=⟨B,3,none⟩) n1 n7 (vI tn));have HF:=Hz (((((((f0.trans f1).mono (L':=[P]) (fun x hx=>by cases hx)).setCell (p:=⟨P,1,none⟩) (.inl (by simp)) (vI ((i:Int)+1))).setCell (p:=⟨B,0,none⟩) (.inr (by simp[hB])) (vI tk)).setCell (p:=⟨B,1,none⟩) (.inr (by simp[hB])) (vI ta)).setCell (p:=⟨B,2,none⟩) (.inr (by simp[hB])) (vS tt)).setCell (p:=⟨B,3,none⟩) (.inr (by simp[hB])) (vI tn));clear g0 g0' g1 h1 f1 f0 H;go_wp2_with fail;generalize ((((x1.setCell ⟨P,1,none⟩ (vI ((i:Int)+1))).setCell ⟨B,0,none⟩ (vI tk)).setCell ⟨B,1,none⟩ (vI ta)).setCell ⟨B,2,none⟩ (vS tt)).setCell ⟨B,3,none⟩ (vI tn)=Z at HG HF HP ⊢;obtain⟨d0,d1,d2,d3,_⟩:=Am (Ad HG.out (.cells #[vI tk,vI ta,vS tt,vI tn] 46));refine bodyPost_ret (v:=.agg #[vI tk,vI ta,vS tt,vI tn]) ?_ rfl ?_
 ·simp[results,Tryz.f59,go_sem,d0,d1,d2,d3]
 ·exact⟨rfl,HP.out.fr ((Fr.refl [] Z).alloc _),HF.out.alloc _⟩
theorem Dx(P g c:Nat)(ts:List Tok)(st:St)(t:Tok)(ht:ts[st.i]?=some t)(gl cl:Nat)(l:List LB)(hl:l.length≤100)(w:World)(h:PSt P g c ts st w)(hS:Dc gl l w)(hgl:gl<w.heap.size)(hE:Be ts):
  Calls prog 54 #[.pointer (some ⟨P,0,none⟩),.slice (some ⟨gl,0,none⟩) l.length cl] w fun e w'=>e = .returned (.bool (isB t st.ok l))∧Fr [] w w':=by
 have cn:=fun w h=>Hz (Bd P g c ts st t ht w h hE)
 have cc:=fun w h=>Hz (I9 gl cl l ⟨t.text.toArray⟩ (by omega) w h)
 have hP:=Aa h.blk;have H:=Hz h;have HS:=Hz hS;clear h hE ht hS;obtain⟨i,ok⟩:=st;obtain⟨tk,ta,tt,tn⟩:=t;dsimp only at cn cc ⊢;have key:isB ⟨tk,ta,tt,tn⟩ ok l=(ok&&((tk==6)||(tk==7))&&l.contains tt):=rfl;rw[key];clear key
 generalize l.contains tt=R at *
 cases ok with
 | false =>
  go_enter func54,ntmps54;go_wp2_with fail;refine(cn _ H.out).out.mono ?_;rintro e x1 ⟨rfl,f1⟩;have h1:=H.out.fr f1;have hP1:=Aa h1.blk;obtain⟨p0,p1,p2,_⟩:=C2 h1.blk;clear h1;go_wp2_with fail;go_ret
  exact⟨rfl,f1.alloc _⟩
 | true =>
  by_cases hk:(tk==6)=true∨((tk==6)=false∧(tk==7)=true)
  ·rcases hk with hk|⟨hk,hk7⟩
   all_goals
    simp only[*,Bool.true_and,Bool.true_or,Bool.or_true];go_enter func54,ntmps54;go_wp2_with fail;refine(cn _ H.out).out.mono ?_;rintro e x1 ⟨rfl,f1⟩;have h1:=H.out.fr f1;have hP1:=Aa h1.blk;obtain⟨p0,p1,p2,_⟩:=C2 h1.blk;clear h1;go_wp2_with fail;have fa:=f1.alloc (.cells #[vI tk,vI ta,vS tt,vI tn] 46);refine(cc _ (fun i x hi=>(fa.cell (p:=⟨gl,i,none⟩) hgl (fun x=>by cases x)).trans (HS.out i x hi))).out.mono ?_;rintro e x2 ⟨rfl,rfl⟩;go_wp2_with fail;go_ret;exact⟨rfl,fa⟩
  ·have h6:(tk==6)=false:=by cases e:(tk==6)with|false=>rfl|true=>exact absurd (.inl e) hk
   have h7:(tk==7)=false:=by cases e:(tk==7)with|false=>rfl|true=>exact absurd (.inr ⟨h6,e⟩) hk
   clear hk;simp only[h6,h7,Bool.or_self,Bool.and_false,Bool.false_and];go_enter func54,ntmps54;go_wp2_with fail;refine(cn _ H.out).out.mono ?_;rintro e x1 ⟨rfl,f1⟩;have h1:=H.out.fr f1;have hP1:=Aa h1.blk;obtain⟨p0,p1,p2,_⟩:=C2 h1.blk;clear h1;go_wp2_with fail;go_ret;exact⟨rfl,f1.alloc _⟩
section
variable {ts:List Tok} {st st':St} {r:Rs} {t:Tok} {s:LB}
theorem Run.isC_{l:List LB}{k:Bool→Cmd}{b:Bool}(ht:ts[st.i]?=some t)(hb:isB t st.ok l=b)(hk:Run ts (k b) st r st'):Run ts (isC l k) st r st':=.look ht (by rw[hb];exact hk)
theorem Run.may_yes{k:Bool→Cmd}(ht:ts[st.i]?=some t)(hb:isB t st.ok [s]=true)(hk:Run ts (k true) ⟨st.i+1,st.ok⟩ r st'):Run ts (C0 s k) st r st':=.look ht (by rw[if_pos hb];exact .adv hk)
theorem Run.may_no{k:Bool→Cmd}(ht:ts[st.i]?=some t)(hb:isB t st.ok [s]=false)(hk:Run ts (k false) st r st'):Run ts (C0 s k) st r st':=.look ht (by rw[if_neg (by rw[hb];decide)];exact hk)
theorem Run.must_yes{k:Cmd}(ht:ts[st.i]?=some t)(hb:isB t st.ok [s]=true)(hk:Run ts k ⟨st.i+1,st.ok⟩ r st'):Run ts (Bk s k) st r st':=.look ht (by rw[if_pos hb];exact .adv hk)
theorem Run.must_no{k:Cmd}(ht:ts[st.i]?=some t)(hb:isB t st.ok [s]=false)(hk:Run ts k ⟨st.i,false⟩ r st'):Run ts (Bk s k) st r st':=.look ht (by rw[if_neg (by rw[hb];decide)];exact .fail hk)
theorem Run.name_yes{k:LB→Cmd}(ht:ts[st.i]?=some t)(hb:Hs t st.ok=true)(hk:Run ts (k t.text) ⟨st.i+1,st.ok⟩ r st'):Run ts (Er k) st r st':=.look ht (by rw[if_pos hb];exact .adv hk)
theorem Run.name_no{k:LB→Cmd}(ht:ts[st.i]?=some t)(hb:Hs t st.ok=false)(hk:Run ts (k []) ⟨st.i,false⟩ r st'):Run ts (Er k) st r st':=.look ht (by rw[if_neg (by rw[hb];decide)];exact .fail hk)
end
def A4(t:Tok)(st:St)(s:LB):St:=if isB t st.ok [s]=true then ⟨st.i+1,st.ok⟩else ⟨st.i,false⟩
def Cd(t:Tok)(st:St):St:=if Hs t st.ok=true then ⟨st.i+1,st.ok⟩else ⟨st.i,false⟩
def Aq(t:Tok)(st:St):LB:=if Hs t st.ok=true then t.text else []
theorem Run.must_{ts:List Tok}{st st':St}{r:Rs}{t:Tok}{s:LB}{k:Cmd}(ht:ts[st.i]?=some t)(hk:Run ts k (A4 t st s) r st'):Run ts (Bk s k) st r st':=by
 unfold A4 at hk
 cases hb:isB t st.ok [s] with
 | true=>rw[hb,if_pos rfl] at hk;exact .must_yes ht hb hk
 | false=>rw[hb,if_neg (by decide)] at hk;exact .must_no ht hb hk
theorem Run.name_{ts:List Tok}{st st':St}{r:Rs}{t:Tok}{k:LB→Cmd}(ht:ts[st.i]?=some t)(hk:Run ts (k (Aq t st)) (Cd t st) r st'):Run ts (Er k) st r st':=by
 unfold Cd Aq at hk
 cases hb:Hs t st.ok with
 | true=>rw[hb,if_pos rfl,if_pos rfl] at hk;exact .name_yes ht hb hk
 | false=>rw[hb,if_neg (by decide),if_neg (by decide)] at hk;exact .name_no ht hb hk
theorem Em{t:Tok}{ok:Bool}{l:List LB}(h:isB t ok l=true):ok=true∧t.k≠0:=by
 unfold isB It at h;simp only[Ba',Bool.or_eq_true,beq_iff_eq] at h;exact⟨h.1.1,by omega⟩
theorem Dc.lit(w:World)(l:List LB)(T:TypeId):Dc w.heap.size l (w.alloc (.cells (l.map fun s=>Value.string ⟨s.toArray⟩).toArray T)):=by
 intro i x hx;rw[Af (Ab w _)];simp[hx]
theorem Dc.one(w:World)(s:LB)(T:TypeId):Dc w.heap.size [s] (w.alloc (.cells #[vS s] T)):=by
 intro i x hx
 have hi:i=0:=by
  rcases i with _|i
  ·rfl
  ·simp at hx
 subst hi;simp at hx;subst hx;rw[Af (Ab w _)];rfl
theorem may_no(s:LB)(P g c:Nat)(ts:List Tok)(st:St)(t:Tok)(ht:ts[st.i]?=some t)(hb:isB t st.ok [s]=false)(w:World)(h:PSt P g c ts st w)(hE:Be ts):
  Calls prog 34 #[.pointer (some ⟨P,0,none⟩),vS s] w fun e w'=>e = .returned (.bool false)∧Fr [] w w':=by
 have fa:=(Fr.refl [] w).alloc (.cells #[vS s] 9);have ci:=fun cl=>Hz (Dx P g c ts st t ht w.heap.size cl [s] (by simp) (w.alloc (.cells #[vS s] 9)) (h.fr fa) (Dc.one w s _) (by simp) hE)
 rw[hb] at ci;clear hb h hE ht;go_enter func34,ntmps34;go_wp2_with fail;refine(ci _).out.mono ?_;rintro e x1 ⟨rfl,f1⟩;go_wp2_with fail;go_ret;exact⟨rfl,fa.trans f1⟩
theorem may_yes(s:LB)(P g c:Nat)(ts:List Tok)(st:St)(t:Tok)(ht:ts[st.i]?=some t)(hb:isB t st.ok [s]=true)(w:World)(h:PSt P g c ts st w)(hE:Be ts):
  Calls prog 34 #[.pointer (some ⟨P,0,none⟩),vS s] w fun e w'=>e = .returned (.bool true)∧PSt P g c ts ⟨st.i+1,st.ok⟩ w'∧Fr [P] w w':=by
 have fa:=(Fr.refl [] w).alloc (.cells #[vS s] 9);have ci:=fun cl=>Hz (Dx P g c ts st t ht w.heap.size cl [s] (by simp) (w.alloc (.cells #[vS s] 9)) (h.fr fa) (Dc.one w s _) (by simp) hE)
 rw[hb] at ci;have cn:=fun w h=>Hz (Ch P g c ts st t ht (Em hb).1 (Em hb).2 w h hE)
 have H:=Hz h;clear hb h hE ht;go_enter func34,ntmps34;go_wp2_with fail;refine(ci _).out.mono ?_;rintro e x1 ⟨rfl,f1⟩;go_wp2_with fail;refine(cn _ (H.out.fr (fa.trans f1))).out.mono ?_;rintro e x2 ⟨rfl,h2,f2⟩;go_wp2_with fail;go_ret;exact⟨rfl,h2,((fa.trans f1).mono (fun x hx=>by cases hx)).trans f2⟩
theorem Bc(s:LB)(P g c:Nat)(ts:List Tok)(st:St)(t:Tok)(ht:ts[st.i]?=some t)(w:World)(h:PSt P g c ts st w)(hE:Be ts):
  Calls prog 52 #[.pointer (some ⟨P,0,none⟩),vS s] w fun e w'=>e = .returned (.tuple #[])∧PSt P g c ts (A4 t st s) w'∧Fr [P] w w':=by
 unfold A4
 cases hb:isB t st.ok [s] with
 | true =>
  rw[if_pos rfl];have cm:=Hz (may_yes s P g c ts st t ht hb w h hE);clear hb h hE ht;go_enter func52,ntmps52;go_wp2_with fail;refine cm.out.mono ?_;rintro e x1 ⟨rfl,h1,f1⟩;go_wp2_with fail
  go_end0
  exact⟨rfl,h1,f1⟩
 | false =>
  rw[if_neg (by decide)];have cm:=Hz (may_no s P g c ts st t ht hb w h hE);have cf:=fun w h=>Hz (Fn P g c ts st w h)
  have H:=Hz h;clear hb h hE ht;go_enter func52,ntmps52;go_wp2_with fail;refine cm.out.mono ?_;rintro e x1 ⟨rfl,f1⟩;go_wp2_with fail;refine(cf _ (H.out.fr f1)).out.mono ?_;rintro e x2 ⟨rfl,h2,f2⟩;go_wp2_with fail
  go_end0
  exact⟨rfl,h2,(f1.mono (fun x hx=>by cases hx)).trans f2⟩
theorem Hl(a b c d:Value)(w:World):(Instr.field 46 (.agg #[a,b,c,d]) 0).run prog w = .ok a w:=by
 simp[Instr.field,asAgg,part,go_sem]
theorem Ol(a b c d:Value)(w:World):(Instr.field 46 (.agg #[a,b,c,d]) 1).run prog w = .ok b w:=by
 simp[Instr.field,asAgg,part,go_sem]
theorem tok_f2(a b c d:Value)(w:World):(Instr.field 46 (.agg #[a,b,c,d]) 2).run prog w = .ok c w:=by
 simp[Instr.field,asAgg,part,go_sem]
theorem tok_f3(a b c d:Value)(w:World):(Instr.field 46 (.agg #[a,b,c,d]) 3).run prog w = .ok d w:=by
 simp[Instr.field,asAgg,part,go_sem]
theorem Fb(P g c:Nat)(ts:List Tok)(st:St)(t:Tok)(ht:ts[st.i]?=some t)(w:World)(h:PSt P g c ts st w)(hE:Be ts):
  Calls prog 51 #[.pointer (some ⟨P,0,none⟩)] w fun e w'=>e = .returned (.string ⟨(Aq t st).toArray⟩)∧PSt P g c ts (Cd t st) w'∧Fr [P] w w':=by
 have cn:=fun w h=>Hz (Bd P g c ts st t ht w h hE)
 have cf:=fun w h=>Hz (Fn P g c ts st w h)
 have H:=Hz h;have hP:=Aa h.blk;have r0:=Hl;have r2:=tok_f2;obtain⟨p0,p1,p2,_⟩:=C2 h.blk;unfold Cd Aq
 cases hok:st.ok with
 | false =>
  have e0:Hs t false=false:=rfl;rw[e0,if_neg (by decide),if_neg (by decide)];rw[hok] at p2;clear h hE ht hok e0;go_enter func51,ntmps51;go_wp2_with fail;refine(cf _ H.out).out.mono ?_;rintro e x2 ⟨rfl,h2,f2⟩;go_wp2_with fail;go_ret
  exact⟨rfl,h2,f2⟩
 | true =>
  have e0:Hs t true=(t.k==1):=rfl;rw[e0];rw[hok] at p2
  cases hk:(t.k==1)with
  | false =>
   rw[if_neg (by decide),if_neg (by decide)];have hk2:(t.k != 1)=true:=by rw[bne,hk];rfl
   clear h hE ht hok e0;go_enter func51,ntmps51;go_wp2_with fail;refine(cn _ H.out).out.mono ?_;rintro e x1 ⟨rfl,f1⟩;go_wp2_with fail;refine(cf _ (H.out.fr f1)).out.mono ?_;rintro e x2 ⟨rfl,h2,f2⟩;go_wp2_with fail;go_ret
   exact⟨rfl,h2,(f1.mono (fun x hx=>by cases hx)).trans f2⟩
  | true =>
   rw[if_pos rfl,if_pos rfl];have hk2:(t.k != 1)=false:=by rw[bne,hk];rfl
   have cx:=fun w h=>Hz (Ch P g c ts st t ht hok (by have:=beq_iff_eq.1 hk;omega) w h hE)
   rw[hok] at cx;clear h hE ht hok e0;go_enter func51,ntmps51;go_wp2_with fail;refine(cn _ H.out).out.mono ?_;rintro e x1 ⟨rfl,f1⟩;go_wp2_with fail;refine(cx _ (H.out.fr f1)).out.mono ?_;rintro e x2 ⟨rfl,h2,f2⟩;go_wp2_with fail;go_ret;exact⟨rfl,h2,(f1.mono (fun x hx=>by cases hx)).trans f2⟩
theorem Ac{x:World}{B:Nat}{T:TypeId}{a0 a1 a2 a3 a4 a5 a6 a7:Value}(h:x.heap[B]?=some (.cells #[a0,a1,a2,a3,a4,a5,a6,a7] T (0,0))):(x.cell? ⟨B,0,none⟩=some a0∧x.cell? ⟨B,1,none⟩=some a1∧x.cell? ⟨B,2,none⟩=some a2∧x.cell? ⟨B,3,none⟩=some a3∧x.cell? ⟨B,4,none⟩=some a4∧x.cell? ⟨B,5,none⟩=some a5∧x.cell? ⟨B,6,none⟩=some a6∧x.cell? ⟨B,7,none⟩=some a7)∧x.frozen? ⟨B,0,none⟩=false∧x.frozen? ⟨B,1,none⟩=false∧x.frozen? ⟨B,2,none⟩=false∧x.frozen? ⟨B,3,none⟩=false∧x.frozen? ⟨B,4,none⟩=false∧x.frozen? ⟨B,5,none⟩=false∧x.frozen? ⟨B,6,none⟩=false∧x.frozen? ⟨B,7,none⟩=false :=
 ⟨⟨Af h 0,Af h 1,Af h 2,Af h 3,Af h 4,Af h 5,Af h 6,Af h 7⟩,Ap h 0,Ap h 1,Ap h 2,Ap h 3,Ap h 4,Ap h 5,Ap h 6,Ap h 7⟩
def st8(x:World)(B:Nat)(a0 a1 a2 a3 a4 a5 a6 a7:Value):World:=(((((((x.setCell ⟨B,0,none⟩ a0).setCell ⟨B,1,none⟩ a1).setCell ⟨B,2,none⟩ a2).setCell ⟨B,3,none⟩ a3).setCell ⟨B,4,none⟩ a4).setCell ⟨B,5,none⟩ a5).setCell ⟨B,6,none⟩ a6).setCell ⟨B,7,none⟩ a7
theorem An{x:World}{B:Nat}{T:TypeId}{o0 o1 o2 o3 o4 o5 o6 o7:Value}(h:x.heap[B]?=some (.cells #[o0,o1,o2,o3,o4,o5,o6,o7] T (0,0)))(a0 a1 a2 a3 a4 a5 a6 a7:Value):(st8 x B a0 a1 a2 a3 a4 a5 a6 a7).heap[B]?=some (.cells #[a0,a1,a2,a3,a4,a5,a6,a7] T (0,0)):=by
 simp[st8,World.setCell,Array.getElem?_modify,h]
theorem Ag(x:World)(B:Nat)(a0 a1 a2 a3 a4 a5 a6 a7:Value):Fr [B] x (st8 x B a0 a1 a2 a3 a4 a5 a6 a7):=by
 unfold st8;exact((((((((Fr.refl [B] x).setCell (p:=⟨B,0,none⟩) (.inl (by simp)) a0).setCell (p:=⟨B,1,none⟩) (.inl (by simp)) a1).setCell (p:=⟨B,2,none⟩) (.inl (by simp)) a2).setCell (p:=⟨B,3,none⟩) (.inl (by simp)) a3).setCell (p:=⟨B,4,none⟩) (.inl (by simp)) a4).setCell (p:=⟨B,5,none⟩) (.inl (by simp)) a5).setCell (p:=⟨B,6,none⟩) (.inl (by simp)) a6).setCell (p:=⟨B,7,none⟩) (.inl (by simp)) a7
theorem C5(x:World)(B:Nat)(a0 a1 a2 a3 a4 a5 a6 a7:Value):(st8 x B a0 a1 a2 a3 a4 a5 a6 a7).heap.size=x.heap.size:=by simp[st8,World.setCell]
theorem Ao{x:World}{B:Nat}{T:TypeId}{a0 a1 a2 a3 a4 a5 a6:Value}(h:x.heap[B]?=some (.cells #[a0,a1,a2,a3,a4,a5,a6] T (0,0))):(x.cell? ⟨B,0,none⟩=some a0∧x.cell? ⟨B,1,none⟩=some a1∧x.cell? ⟨B,2,none⟩=some a2∧x.cell? ⟨B,3,none⟩=some a3∧x.cell? ⟨B,4,none⟩=some a4∧x.cell? ⟨B,5,none⟩=some a5∧x.cell? ⟨B,6,none⟩=some a6)∧x.frozen? ⟨B,0,none⟩=false∧x.frozen? ⟨B,1,none⟩=false∧x.frozen? ⟨B,2,none⟩=false∧x.frozen? ⟨B,3,none⟩=false∧x.frozen? ⟨B,4,none⟩=false∧x.frozen? ⟨B,5,none⟩=false∧x.frozen? ⟨B,6,none⟩=false :=
 ⟨⟨Af h 0,Af h 1,Af h 2,Af h 3,Af h 4,Af h 5,Af h 6⟩,Ap h 0,Ap h 1,Ap h 2,Ap h 3,Ap h 4,Ap h 5,Ap h 6⟩
def st7(x:World)(B:Nat)(a0 a1 a2 a3 a4 a5 a6:Value):World:=((((((x.setCell ⟨B,0,none⟩ a0).setCell ⟨B,1,none⟩ a1).setCell ⟨B,2,none⟩ a2).setCell ⟨B,3,none⟩ a3).setCell ⟨B,4,none⟩ a4).setCell ⟨B,5,none⟩ a5).setCell ⟨B,6,none⟩ a6
theorem Bt{x:World}{B:Nat}{T:TypeId}{o0 o1 o2 o3 o4 o5 o6:Value}(h:x.heap[B]?=some (.cells #[o0,o1,o2,o3,o4,o5,o6] T (0,0)))(a0 a1 a2 a3 a4 a5 a6:Value):(st7 x B a0 a1 a2 a3 a4 a5 a6).heap[B]?=some (.cells #[a0,a1,a2,a3,a4,a5,a6] T (0,0)):=by
 simp[st7,World.setCell,Array.getElem?_modify,h]
theorem A3(x:World)(B:Nat)(a0 a1 a2 a3 a4 a5 a6:Value):Fr [B] x (st7 x B a0 a1 a2 a3 a4 a5 a6):=by
 unfold st7;exact(((((((Fr.refl [B] x).setCell (p:=⟨B,0,none⟩) (.inl (by simp)) a0).setCell (p:=⟨B,1,none⟩) (.inl (by simp)) a1).setCell (p:=⟨B,2,none⟩) (.inl (by simp)) a2).setCell (p:=⟨B,3,none⟩) (.inl (by simp)) a3).setCell (p:=⟨B,4,none⟩) (.inl (by simp)) a4).setCell (p:=⟨B,5,none⟩) (.inl (by simp)) a5).setCell (p:=⟨B,6,none⟩) (.inl (by simp)) a6
theorem S1(x:World)(B:Nat)(a0 a1 a2 a3 a4 a5 a6:Value):(st7 x B a0 a1 a2 a3 a4 a5 a6).heap.size=x.heap.size:=by simp[st7,World.setCell]
theorem Sh.of_fr{w w':World}{L:List Nat}{ok ok':Nat→Prop}(hf:Fr L w w')(h:∀ b,ok b→b<w.heap.size→ok' b∧b ∉ L):Sh w w' ok ok' :=
 fun b hb hlt=>⟨(h b hb hlt).1,hf.block b hlt (h b hb hlt).2,Nl' hlt hf.size⟩
theorem PSt.frL{P g c:Nat}{ts:List Tok}{st:St}{w w':World}{L:List Nat}(h:PSt P g c ts st w)(hf:Fr L w w')(hP:P ∉ L)(hg:g ∉ L):PSt P g c ts st w' :=
 ⟨hf.keep h.blk hP,h.rt.frL hf h.lt hg,Nl' h.lt hf.size,h.ne,h.inb⟩
def Fl(P g c:Nat)(ts:List Tok)(st:St)(cmd:Cmd)(w:World)(e:Ending)(w':World):Prop :=
 ∃ (k a:Int) (nm:LB) (n:Int) (s:LB) (ls:List LB) (args:List Ah) (arms:List (Av×Ah)) (A5:Option Addr) (n5 c5:Nat) (A6:Option Addr) (n6 c6:Nat) (A7:Option Addr) (n7 c7:Nat) (st':St),
  e = .returned (.agg #[vI k,vI a,vS nm,vI n,vS s,.slice A5 n5 c5,.slice A6 n6 c6,.slice A7 n7 c7])∧Ai w' (fun b=>w.heap.size≤b) (.mk k a nm n s ls args arms) [vI k,vI a,vS nm,vI n,vS s,.slice A5 n5 c5,.slice A6 n6 c6,.slice A7 n7 c7] ∧
  Run ts cmd st (.e (.mk k a nm n s ls args arms)) st'∧PSt P g c ts st' w'∧Fr [P] w w'
def J9(P g c:Nat)(ts:List Tok)(st:St)(cmd:Cmd)(w:World)(e:Ending)(w':World):Prop :=
 ∃ (k a:Int) (nm:LB) (n:Int) (s:LB) (ls:List LB) (args:List Av) (A5:Option Addr) (n5 c5:Nat) (A6:Option Addr) (n6 c6:Nat) (st':St),
  e = .returned (.agg #[vI k,vI a,vS nm,vI n,vS s,.slice A5 n5 c5,.slice A6 n6 c6])∧Bf w' (fun b=>w.heap.size≤b) (.mk k a nm n s ls args) [vI k,vI a,vS nm,vI n,vS s,.slice A5 n5 c5,.slice A6 n6 c6] ∧
  Run ts cmd st (.p (.mk k a nm n s ls args)) st'∧PSt P g c ts st' w'∧Fr [P] w w'
def GE(ts:List Tok)(N lv:Nat)(nt:NT)(fid:FuncId):Prop:=∀ (P g c:Nat)(st:St)(w:World),PSt P g c ts st w→16 *(ts.length-st.i)+lv<N→Calls prog fid #[.pointer (some ⟨P,0,none⟩)] w (Fl P g c ts st (body nt) w)
def GP(ts:List Tok)(N lv:Nat)(nt:PNT)(fid:FuncId):Prop:=∀ (P g c:Nat)(st:St)(w:World),PSt P g c ts st w→16 *(ts.length-st.i)+lv<N→Calls prog fid #[.pointer (some ⟨P,0,none⟩)] w (J9 P g c ts st (Bp nt) w)
theorem Run.els{ts:List Tok}{c d:Cmd}{st:St}{r:Rs}{st':St}(h:Run ts d st r st'):Run ts (if false=true then c else d) st r st':=h
theorem Run.thn{ts:List Tok}{c d:Cmd}{st:St}{r:Rs}{st':St}(h:Run ts c st r st'):Run ts (if true=true then c else d) st r st':=h
theorem At{ts:List Tok}{i:Nat}(h:i<ts.length):∃ t,ts[i]?=some t:=⟨ts[i],Lg' h⟩
theorem Run.le{ts:List Tok}{c:Cmd}{st:St}{r:Rs}{st':St}(h:Run ts c st r st'):st.i≤st'.i:=h.grows.1
structure Dp (ts:List Tok)(N:Nat):Prop where
 fn:GE ts N 14 .fn 53
 seq:GE ts N 13 .seq 20
 item:GE ts N 12 .item 33
 or:GE ts N 11 .or 57
 and:GE ts N 10 .and 86
 cmp:GE ts N 9 .cmp 113
 sum:GE ts N 8 .sum 132
 prod:GE ts N 7 .prod 146
 unary:GE ts N 6 .unary 150
 app:GE ts N 5 .app 152
 post:GE ts N 4 .post 56
 atom:GE ts N 3 .atom 85
section
attribute [local go_sem ↓] Go.wp_at_zero Go.wp_at_succ
structure CS (pn pm:Nat)(most σ:Int)(w:World):Prop where
 n:w.heap[pn]?=some (.cells #[vI σ] 3 (0,0))
 m:w.heap[pm]?=some (.cells #[vI most] 3 (0,0))
 lo:0≤σ
 hi:most≤1099511627776
 ne:pn≠pm
theorem CS.fr{pn pm:Nat}{most σ:Int}{w w':World}(h:CS pn pm most σ w)(hf:Fr [] w w'):CS pn pm most σ w' :=
 ⟨hf.keep h.n (fun x=>by cases x),hf.keep h.m (fun x=>by cases x),h.lo,h.hi,h.ne⟩
structure DS (pm pa pf:Nat)(most:Int)(σ:Int×Bool)(w:World):Prop where
 m:w.heap[pm]?=some (.cells #[vI most] 3 (0,0))
 a:w.heap[pa]?=some (.cells #[vI σ.1] 3 (0,0))
 f:w.heap[pf]?=some (.cells #[.bool σ.2] 4 (0,0))
 n1:pa≠pm
 n2:pf≠pm
 n3:pa≠pf
theorem DS.fr{pm pa pf:Nat}{most:Int}{σ:Int×Bool}{w w':World}(h:DS pm pa pf most σ w)(hf:Fr [] w w'):DS pm pa pf most σ w' :=
 ⟨hf.keep h.m (fun x=>by cases x),hf.keep h.a (fun x=>by cases x),hf.keep h.f (fun x=>by cases x),h.n1,h.n2,h.n3⟩
theorem eachC(pn pm:Nat)(most σ a D:Int)(d:Nat)(_hD:D=d)(w:World)(h:CS pn pm most σ w)(hs:σ≤most):
  Calls prog 29 #[vI a,vI D,.pointer (some ⟨pn,0,none⟩),.pointer (some ⟨pm,0,none⟩)] w fun e w'=>e = .returned (.bool (Bx most σ (a,d)).2)∧CS pn pm most (Bx most σ (a,d)).1 w'∧Fr [pn] w w':=by
 have hn:=Aa h.n;have hm:=Aa h.m;have c0:w.cell? ⟨pn,0,none⟩=some (vI σ):=Af h.n 0;have z0:w.frozen? ⟨pn,0,none⟩=false:=Ap h.n 0;have c1:w.cell? ⟨pm,0,none⟩=some (vI most):=Af h.m 0;have ne:=h.ne;have ne':=Ne.symm h.ne;have lo:=h.lo;have hi:=h.hi;have H:=Hz h;clear h _hD;show Calls _ _ _ _ fun e w'=>e = .returned (.bool (decide (σ+1≤most)))∧CS pn pm most (σ+1) w'∧Fr [pn] w w'
 have fs:=(Fr.refl [pn] w).setCell (p:=⟨pn,0,none⟩) (.inl (by simp)) (vI (σ+1));have HC:Hid (CS pn pm most (σ+1) (w.setCell ⟨pn,0,none⟩ (vI (σ+1)))):=Hz ⟨Bi H.out.n 0 _,fs.keep H.out.m (by simpa using Ne.symm H.out.ne),by omega,hi,H.out.ne⟩;have HF:=Hz fs;clear fs;have wq:IntKind.i64.wrap (σ+1)=σ+1:=IntWalk.i64_in _ (by omega);go_enter func29,ntmps29;go_wp2_with fail;go_ret;exact⟨rfl,HC.out,HF.out⟩
theorem eachD(pm pa pf:Nat)(most:Int)(σ:Int×Bool)(a D:Int)(d:Nat)(hD:D=d)(w:World)(h:DS pm pa pf most σ w)(hs:σ.2=false):
  Calls prog 28 #[vI a,vI D,.pointer (some ⟨pm,0,none⟩),.pointer (some ⟨pa,0,none⟩),.pointer (some ⟨pf,0,none⟩)] w fun e w'=>e = .returned (.bool (A2 most σ (a,d)).2)∧DS pm pa pf most (A2 most σ (a,d)).1 w'∧Fr [pa,pf] w w':=by
 obtain⟨σa,σf⟩:=σ;simp only at hs;subst hs;have hm:=Aa h.m;have ha:=Aa h.a;have hf:=Aa h.f;have c0:w.cell? ⟨pm,0,none⟩=some (vI most):=Af h.m 0;have c1:w.cell? ⟨pa,0,none⟩=some (vI σa):=Af h.a 0;have c2:w.cell? ⟨pf,0,none⟩=some (.bool false):=Af h.f 0;have z1:w.frozen? ⟨pa,0,none⟩=false:=Ap h.a 0;have z2:w.frozen? ⟨pf,0,none⟩=false:=Ap h.f 0;have n1:=h.n1;have n1':=Ne.symm h.n1;have n2:=h.n2;have n2':=Ne.symm h.n2;have n3:=h.n3;have n3':=Ne.symm h.n3;have H:=Hz h;clear h;by_cases hd:most<D
 ·have e:A2 most (σa,false) (a,d)=((a,true),false):=by unfold A2;rw[if_pos (by simpa [← hD] using hd)]
  rw[e];clear e hD;have fs:=((Fr.refl [pa,pf] w).setCell (p:=⟨pa,0,none⟩) (.inl (by simp)) (vI a)).setCell (p:=⟨pf,0,none⟩) (.inl (by simp)) (.bool true);have HC:Hid (DS pm pa pf most (a,true) ((w.setCell ⟨pa,0,none⟩ (vI a)).setCell ⟨pf,0,none⟩ (.bool true))):=Hz ⟨fs.keep H.out.m (by simp[n1',n2']),((Fr.refl [pf] _).setCell (p:=⟨pf,0,none⟩) (.inl (by simp)) (.bool true)).keep (Bi H.out.a 0 (vI a)) (by simp[n3]),Bi (((Fr.refl [pa] w).setCell (p:=⟨pa,0,none⟩) (.inl (by simp)) (vI a)).keep H.out.f (by simp[n3'])) 0 (.bool true),H.out.n1,H.out.n2,H.out.n3⟩;have HF:=Hz fs;clear fs;go_enter func28,ntmps28;go_wp2_with fail;go_ret;exact⟨rfl,HC.out,HF.out⟩
 ·have e:A2 most (σa,false) (a,d)=((σa,false),true):=by unfold A2;rw[if_neg (by simpa [← hD] using hd)];rfl
  rw[e];clear e hD;go_enter func28,ntmps28;go_wp2_with fail;go_ret;exact⟨rfl,H.out,Fr.refl _ _⟩
def PTC(pn pm:Nat)(most:Int)(lo N:Nat):Prop:=∀ (k a:Int)(nm:LB)(n:Int)(s:LB)(ls:List LB)(args:List Av)(v5 v6:Value)(d:Nat)(D:Int)(w:World)(σ:Int),szP (.mk k a nm n s ls args)<N→D=d→d+szP (.mk k a nm n s ls args)≤1099511627776→lo≤w.heap.size →
  Bf w (fun b=>b<lo) (.mk k a nm n s ls args) [vI k,vI a,vS nm,vI n,vS s,v5,v6]→CS pn pm most σ w→σ≤most →
  Calls prog 40 #[.agg #[vI k,vI a,vS nm,vI n,vS s,v5,v6],vI D,.func (.func 29) #[] #[.pointer (some ⟨pn,0,none⟩),.pointer (some ⟨pm,0,none⟩)]] w fun e w'=>e = .returned (.bool (goL (Bx most) σ (Ba (.mk k a nm n s ls args) d)).2)∧CS pn pm most (goL (Bx most) σ (Ba (.mk k a nm n s ls args) d)).1 w'∧Fr [pn] w w'
theorem N7(pn pm:Nat)(most:Int)(lo:Nat)(hl:lo≤pn)(N:Nat)(ih:PTC pn pm most lo N):PTC pn pm most lo (N+1):=by
 intro k a nm n s ls args v5 v6 d D w σ hN hD hb hlo hx hs hok;have hx0:=hx
 cases hx with
 | mk c5 c6 h5 e5 h6 e6 =>
 have hsz:szP (.mk k a nm n s ls args)=1+Ej args:=by simp[szP]
 rw[hsz] at hN hb;rw[Gw,goL]
 have hform:∃ A6 m6 cc6,v6 = .slice A6 m6 cc6∧m6=args.length:=by
  obtain⟨_,_,hv⟩:=h6.form;exact⟨_,_,_,hv,rfl⟩
 obtain⟨A6,m6,cc6,rfl,rfl⟩:=hform;have IH:=Hz ih;have H6:=Hz h6;have E6:Hid (∀ (i:Nat) (x:Av),args[i]?=some x→Bf w (fun b=>b<lo) x (c6 i)):=Hz e6;have HD:=Hz hD;have HS:=Hz hs;have hpn:=Aa hs.n;have HOK:=Hz hok;have HN:=Hz hN;have HSZ:=Hz hsz;have hdn:(0:Int)≤D:=by omega
 have hdx:D≤1099511627776:=by omega
 have HDQ:Hid (IntKind.i64.wrap (D+1)=D+1):=Hz (IntWalk.i64_in _ (by omega));have hm6:(args.length:Int)≤4611686018427387903:=by have:args.length≤Ej args:=Pb args;omega
 clear ih h5 e5 h6 e6 hs hok hD hN hsz hx0;generalize hR:(if ((Bx most) σ (a,d)).2=true then goL (Bx most) ((Bx most) σ (a,d)).1 (B1 args (d+1))else (((Bx most) σ (a,d)).1,false))=R;have HR:=Hz hR;clear hR;go_enter func40,ntmps40;go_wp2_with fail;have f0:Fr [] w (w.alloc (.cells #[vI k,vI a,vS nm,vI n,vS s,v5,.slice A6 args.length cc6] 62)):=(Fr.refl [] w).alloc _;have q0:=Ab w (.cells #[vI k,vI a,vS nm,vI n,vS s,v5,.slice A6 args.length cc6] 62)
 generalize w.alloc (.cells #[vI k,vI a,vS nm,vI n,vS s,v5,.slice A6 args.length cc6] 62)=w1 at *
 have hT1:=Aa q0
 generalize hT:w.heap.size=T at *
 refine(eachC pn pm most σ a D d HD.out w1 (HS.out.fr f0) HOK.out).mono ?_;rintro e w2 ⟨rfl,hs2,f2⟩;have hl0:=Aa hs2.n;have q0:=f2.keep q0 (by simp;omega);have f2:=(f0.mono (L':=[pn]) (fun x hx=>by cases hx)).trans f2
 cases hb1:((Bx most) σ (a,d)).2 with
 | false =>
  go_wp2_with fail;go_ret;have e:R=(((Bx most) σ (a,d)).1,false):=by rw[← HR.out,if_neg (by rw[hb1];decide)]
  rw[e]
  exact⟨rfl,hs2,f2⟩
 | true =>
  have HG:Hid (R=goL (Bx most) ((Bx most) σ (a,d)).1 (B1 (args.drop 0) (d+1))):=Hz (by rw[← HR.out,if_pos hb1];rfl);have hok2:Hid (((Bx most) σ (a,d)).1≤most):=Hz (by have:=hb1;simp[Bx] at this ⊢;exact this);clear hb1 HR;have hTx:=Aa q0;obtain⟨⟨l0,l1,l2,l3,l4,l5,l6⟩,_⟩:=Ao q0;go_wp2_with fail;clear l0 l1 l2 l3 l4 l5 l6
  go_loopw [18] (fun iv wr=>∃ (i:Nat) (τ:Int),iv=vI i∧i≤args.length∧CS pn pm most τ wr∧Hid (τ≤most)∧Fr [pn] w wr∧Hid (R=goL (Bx most) τ (B1 (args.drop i) (d+1)))) (fun iv wr=>args.length-(intOf iv).toNat)
  case atStart=>exact⟨0,_,rfl,by omega,hs2,hok2,f2,HG⟩
  case round =>
   obtain⟨i,τ,rfl,hi,hs,hok,f,HG⟩:=hrel;clear hok2 hs2 f2 q0 hTx hl0;by_cases hlt:i<args.length
   ·obtain⟨y,hy⟩:∃ y,args[i]?=some y:=⟨args[i],Lg' hlt⟩
    have HY:=Hz hy;clear hy;have hyx:=E6.out i y HY.out
    rcases H6.out with⟨_,_,_,hl⟩| ⟨g,og,c',hv,hg,hgs,_,hcs⟩
    ·omega
    ·cases hv;obtain⟨hcl,hcc⟩:=hcs i hlt;have hcell:∀ (j:Nat) (v:Value),(c6 i)[j]?=some v→wr.cell? ⟨g,og+i * 7+j,none⟩=some v:=fun j v hj=>(f.cell (p:=⟨g,og+i * 7+j,none⟩) hgs (by simp;omega)).trans (hcc j v hj)
     have hgw:g<wr.heap.size:=Nl' hgs (by have:=f.size;omega)
     generalize hci:c6 i=ci at *
     have hyw:=hyx.keep (w':=wr) (ok':=fun b=>b<lo) (Sh.of_fr f (fun b hb hlt=>⟨hb,by simp;omega⟩))
     cases hyx with
     | @mk k2 a2 nm2 n2 s2 ls2 args2 v52 v62 c52 c62 h52 e52 h62 e62 =>
     have hf5:∃ A m cc,v52 = .slice A m cc:=by obtain⟨_,_,hv⟩:=h52.form;exact⟨_,_,_,hv⟩
     have hf6:∃ A m cc,v62 = .slice A m cc:=by obtain⟨_,_,hv⟩:=h62.form;exact⟨_,_,_,hv⟩
     clear h52 e52 h62 e62;obtain⟨A52,m52,cc52,rfl⟩:=hf5;obtain⟨A62,m62,cc62,rfl⟩:=hf6;have x0:wr.cell? ⟨g,og+i * 7,none⟩=some (vI k2):=hcell 0 _ rfl;have x1:wr.cell? ⟨g,og+i * 7+1,none⟩=some (vI a2):=hcell 1 _ rfl;have x2:wr.cell? ⟨g,og+i * 7+2,none⟩=some (vS nm2):=hcell 2 _ rfl;have x3:wr.cell? ⟨g,og+i * 7+3,none⟩=some (vI n2):=hcell 3 _ rfl;have x4:wr.cell? ⟨g,og+i * 7+4,none⟩=some (vS s2):=hcell 4 _ rfl;have x5:wr.cell? ⟨g,og+i * 7+5,none⟩=some (.slice A52 m52 cc52):=hcell 5 _ rfl;have x6:wr.cell? ⟨g,og+i * 7+6,none⟩=some (.slice A62 m62 cc62):=hcell 6 _ rfl;have hsz2:=M8 HY.out;have cP:=fun W (hW:Fr [] wr W)=>Hz (IH.out k2 a2 nm2 n2 s2 ls2 args2 (.slice A52 m52 cc52) (.slice A62 m62 cc62) (d+1) (D+1) W τ (by have:=HN.out;omega) (by rw[HD.out];simp) (by omega) (by have:=f.size;have:=hW.size;omega) (hyw.keep (Sh.of_fr hW (fun b hb hlt=>⟨hb,fun x=>by cases x⟩))) (hs.fr hW) hok.out)
     have hDQ:=HDQ.out;clear hcell hci hcc hcs hcl hyw hg;have q1:(0:Int)≤(i:Int):=by omega
     have q2:(i:Int)<(args.length:Int):=by omega
     go_wp2_with fail;have fb:Fr [] wr (wr.alloc (.cells #[vI k2,vI a2,vS nm2,vI n2,vS s2,.slice A52 m52 cc52,.slice A62 m62 cc62] 62)):=(Fr.refl [] wr).alloc _;refine(cP _ fb).out.mono ?_;rintro e w3 ⟨rfl,hs3,f3⟩;clear x0 x1 x2 x3 x4 x5 x6 cP hDQ;have f3:=(fb.mono (L':=[pn]) (fun x hx=>by cases hx)).trans f3;have f4:=f.trans f3
     cases hb2:(goL (Bx most) τ (Ba (.mk k2 a2 nm2 n2 s2 ls2 args2) (d+1))).2 with
     | false =>
      go_wp2_with fail;go_ret;have e:R=((goL (Bx most) τ (Ba (.mk k2 a2 nm2 n2 s2 ls2 args2) (d+1))).1,false):=by rw[HG.out,Ew HY.out,C1,if_neg (by rw[hb2];decide)]
      rw[e]
      exact⟨rfl,hs3,f4⟩
     | true =>
      have HG2:Hid (R=goL (Bx most) (goL (Bx most) τ (Ba (.mk k2 a2 nm2 n2 s2 ls2 args2) (d+1))).1 (B1 (args.drop (i+1)) (d+1))):=Hz (by rw[HG.out,Ew HY.out,C1,if_pos hb2]);have hok3:Hid ((goL (Bx most) τ (Ba (.mk k2 a2 nm2 n2 s2 ls2 args2) (d+1))).1≤most):=Hz (Kw hok.out hb2);clear hb2 HG hok;go_wp2_with fail
      go_roundw
      case rel=>exact⟨i+1,_,by simp,by omega,hs3,hok3,f4,HG2⟩
      case measure=>simp[intOf];omega
   ·have ei:i=args.length:=by omega
    subst ei;go_wp2_with fail;go_ret;have e:R=(τ,true):=by rw[HG.out,List.drop_length];simp[B1,goL]
    rw[e];exact⟨rfl,hs,f⟩
theorem Kk(pn pm:Nat)(most:Int)(lo:Nat)(hl:lo≤pn):∀ N,PTC pn pm most lo N
 | 0=>fun _ _ _ _ _ _ _ _ _ _ _ _ _ h=>absurd h (Nat.not_lt_zero _)
 | N+1=>N7 pn pm most lo hl N (Kk pn pm most lo hl N)
end
theorem Gj(n:Int)(t:Tok)(A:Option Addr)(m c:Nat)(w:World):
  Calls prog 58 #[vI n,.agg #[vI t.k,vI t.at',.string ⟨t.text.toArray⟩,vI t.n],.slice A m c] w fun e w' =>
   e = .returned (.agg #[vI 19,vI t.at',vE,vI n,vE,vZ,.slice A m c,vZ])∧Fr [] w w':=by
 obtain⟨tk,ta,tt,tn⟩:=t;simp only;go_enter func58,ntmps58;go_wp2_with fail;refine bodyPost_ret (v:=.agg #[vI 19,vI ta,vE,vI n,vE,vZ,.slice A m c,vZ]) ?_ rfl ?_
 ·simp[results,Tryz.f58,go_sem]
 ·exact⟨rfl,((Fr.refl [] w).alloc _).alloc _⟩
theorem Hi(s:LB)(w:World):
  Calls prog 133 #[vS s] w fun e w'=>e = .returned (vI (Aw s))∧w=w':=by
 cases b0:(s==[61])with
 | true =>
  have hv:Aw s=7:=by rw[eq_of_beq b0];rfl
  rw[hv];go_enter func133,ntmps133;go_wp2_with fail;go_ret
  exact⟨rfl,rfl⟩
 | false =>
  cases b1:(s==[60])with
  | true =>
   have hv:Aw s=8:=by rw[eq_of_beq b1];rfl
   rw[hv];go_enter func133,ntmps133;go_wp2_with fail;go_ret
   exact⟨rfl,rfl⟩
  | false =>
   cases b2:(s==[43])with
   | true =>
    have hv:Aw s=1:=by rw[eq_of_beq b2];rfl
    rw[hv];go_enter func133,ntmps133;go_wp2_with fail;go_ret
    exact⟨rfl,rfl⟩
   | false =>
    cases b3:(s==[45])with
    | true =>
     have hv:Aw s=2:=by rw[eq_of_beq b3];rfl
     rw[hv];go_enter func133,ntmps133;go_wp2_with fail;go_ret
     exact⟨rfl,rfl⟩
    | false =>
     cases b4:(s==[42])with
     | true =>
      have hv:Aw s=3:=by rw[eq_of_beq b4];rfl
      rw[hv];go_enter func133,ntmps133;go_wp2_with fail;go_ret
      exact⟨rfl,rfl⟩
     | false =>
      cases b5:(s==[47])with
      | true =>
       have hv:Aw s=4:=by rw[eq_of_beq b5];rfl
       rw[hv];go_enter func133,ntmps133;go_wp2_with fail;go_ret
       exact⟨rfl,rfl⟩
      | false =>
       have hv:Aw s=5:=by unfold Aw;rw[if_neg (bN.1 b0),if_neg (bN.1 b1),if_neg (bN.1 b2),if_neg (bN.1 b3),if_neg (bN.1 b4),if_neg (bN.1 b5)]
       rw[hv];go_enter func133,ntmps133;go_wp2_with fail;go_ret;exact⟨rfl,rfl⟩
theorem Jf(s:LB)(w:World):
  Calls prog 157 #[vS s] w fun e w'=>e = .returned (.tuple #[vI (Bg s).1,vI ((Bg s).2:Nat)])∧w=w':=by
 cases b0:(s==[114,101,102])with
 | true =>
  have hv:Bg s=(10,1):=by rw[eq_of_beq b0];rfl
  rw[hv];go_enter func157,ntmps157;go_wp2_with fail;go_ret2
  exact⟨rfl,rfl⟩
 | false =>
  cases b1:(s==[108,101,110])with
  | true =>
   have hv:Bg s=(16,1):=by rw[eq_of_beq b1];rfl
   rw[hv];go_enter func157,ntmps157;go_wp2_with fail;go_ret2
   exact⟨rfl,rfl⟩
  | false =>
   cases b2:(s==[115,105,122,101])with
   | true =>
    have hv:Bg s=(17,1):=by rw[eq_of_beq b2];rfl
    rw[hv];go_enter func157,ntmps157;go_wp2_with fail;go_ret2
    exact⟨rfl,rfl⟩
   | false =>
    cases b3:(s==[103,101,116,99])with
    | true =>
     have hv:Bg s=(20,1):=by rw[eq_of_beq b3];rfl
     rw[hv];go_enter func157,ntmps157;go_wp2_with fail;go_ret2
     exact⟨rfl,rfl⟩
    | false =>
     cases b4:(s==[112,117,116,99])with
     | true =>
      have hv:Bg s=(21,1):=by rw[eq_of_beq b4];rfl
      rw[hv];go_enter func157,ntmps157;go_wp2_with fail;go_ret2
      exact⟨rfl,rfl⟩
     | false =>
      cases b5:(s==[97,114,114,97,121])with
      | true =>
       have hv:Bg s=(13,2):=by rw[eq_of_beq b5];rfl
       rw[hv];go_enter func157,ntmps157;go_wp2_with fail;go_ret2
       exact⟨rfl,rfl⟩
      | false =>
       cases b6:(s==[103,101,116])with
       | true =>
        have hv:Bg s=(14,2):=by rw[eq_of_beq b6];rfl
        rw[hv];go_enter func157,ntmps157;go_wp2_with fail;go_ret2
        exact⟨rfl,rfl⟩
       | false =>
        cases b7:(s==[98,121,116,101])with
        | true =>
         have hv:Bg s=(18,2):=by rw[eq_of_beq b7];rfl
         rw[hv];go_enter func157,ntmps157;go_wp2_with fail;go_ret2
         exact⟨rfl,rfl⟩
        | false =>
         cases b8:(s==[99,97,116])with
         | true =>
          have hv:Bg s=(19,2):=by rw[eq_of_beq b8];rfl
          rw[hv];go_enter func157,ntmps157;go_wp2_with fail;go_ret2
          exact⟨rfl,rfl⟩
         | false =>
          cases b9:(s==[115,101,116])with
          | true =>
           have hv:Bg s=(15,3):=by rw[eq_of_beq b9];rfl
           rw[hv];go_enter func157,ntmps157;go_wp2_with fail;go_ret2
           exact⟨rfl,rfl⟩
          | false =>
           have hv:Bg s=(0,0):=by unfold Bg;rw[if_neg (bN.1 b0),if_neg (bN.1 b1),if_neg (bN.1 b2),if_neg (bN.1 b3),if_neg (bN.1 b4),if_neg (bN.1 b5),if_neg (bN.1 b6),if_neg (bN.1 b7),if_neg (bN.1 b8),if_neg (bN.1 b9)]
           rw[hv];go_enter func157,ntmps157;go_wp2_with fail;go_ret2;exact⟨rfl,rfl⟩
end Go.Proofs.YtpjkfeehgookkaaGreatDoor
