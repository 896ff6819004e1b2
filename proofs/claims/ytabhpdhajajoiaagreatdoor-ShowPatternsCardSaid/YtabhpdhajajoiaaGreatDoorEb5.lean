/- A part of the proof: L2, Ls, Lt, L2n. -/
import Derived.Lib.IndexMore
import Derived.Lib.IndexBytes
import Derived.Test.YtabhpdhajajoiaaGreatDoorEb3
import Derived.Test.YtabhpdhajajoiaaGreatDoorEb4
namespace Go.Proofs.YtabhpdhajajoiaaGreatDoor
open Go.RowKit
open _root_.Go.Proofs.Tryz
set_option linter.all false
set_option maxHeartbeats 16000000
set_option maxRecDepth 100000
open List renaming length_cons→Lc',getElem?_eq_getElem→Lg',cons_append→Lp',length_nil→Ln',append_assoc→Ls'
open Nat renaming lt_of_lt_of_le→Nl',le_refl→Nr'
theorem nMax:1<prog.globals.size:=of_decide_eq_true (by kernel_rfl)
structure Dx (w:World):Prop where
 env:Env w
 max:∃ m,w.cell? ⟨1,0,none⟩=some (vI m)
theorem Dx.fr{w w':World}(h:Dx w)(hb:Fr [] w w'):Dx w':=by
 obtain⟨he,m,hm⟩:=h;refine⟨he.fr hb,m,?_⟩;rw[hb.cell (p:=⟨1,0,none⟩) (Nl' nMax he.size) (fun h=>by cases h)];exact hm
theorem Sl(s sub:LB):Lib.contains s sub=true↔sub <:+: s:=by
 unfold Lib.contains;rw[decide_eq_true_eq]
 induction s with
 | nil =>
  unfold Lib.index
  cases sub with
  | nil=>simp
  | cons a r=>simp
 | cons b l ih =>
  rw[Lib.index];by_cases hp:sub.isPrefixOf (b::l)=true
  ·rw[if_pos hp];exact⟨fun _=>(List.isPrefixOf_iff_prefix.1 hp).isInfix,fun _=>by omega⟩
  ·rw[if_neg hp]
   have hge:∀ l:LB,-1≤Lib.index l sub:=by
    intro l
    induction l with
    | nil=>unfold Lib.index;split <;> omega
    | cons c r ih2 =>
     rw[Lib.index];split
     ·omega
     ·split
      ·omega
      ·omega
   have:=hge l;by_cases h1:Lib.index l sub = -1
   ·rw[h1] at ih ⊢;simp only[beq_self_eq_true,if_true];constructor
    ·intro h;omega
    ·intro h;rcases List.infix_cons_iff.1 h with h|h
     ·exact absurd (List.isPrefixOf_iff_prefix.2 h) hp
     ·have:=ih.2 h;omega
   ·have h2:(Lib.index l sub == -1)=false:=by rw[bN];exact h1
    rw[h2];simp only[Bool.false_eq_true,if_false];constructor
    ·intro _;exact(ih.1 (by omega)).trans (List.suffix_cons b l).isInfix
    ·intro _;omega
theorem Wu(s:LB)(c:UInt8):decide (0≤Lib.indexByte s c)=s.contains c:=by
 rw[Bool.eq_iff_iff,decide_eq_true_eq,List.contains_iff_mem];have hge:=Lib.indexByte_ge s c;constructor
 ·intro h
  obtain⟨o,ho⟩:∃ o:Nat,Lib.indexByte s c=o:=⟨(Lib.indexByte s c).toNat,by omega⟩
  exact List.mem_of_getElem? (Lib.indexByte_some ho).1
 ·intro h;rcases Int.lt_or_le (Lib.indexByte s c) 0 with h1|h1
  ·obtain⟨k,hk⟩:=List.mem_iff_getElem?.1 h;exact absurd hk (Lib.indexByte_none (by omega) k)
  ·exact h1
theorem Jg(s:ByteArray)(w:World):Calls prog 135 #[.string s,.string ⟨#[32]⟩] w fun e w'=>e = .returned (.bool (s.data.toList.contains 32))∧w'=w:=by
 have h:=Tryz.strings_Contains_one s 32 w;rw[Wu] at h;exact h
theorem Op(s:ByteArray)(w:World)(hE:Dx w)(h0:s.data.toList≠[])(hb:(32:UInt8) ∉ s.data.toList)(W:ByteArray)(hW:W.data.toList=Gn)(sub:ByteArray)(hsub:sub.data.toList=[32]++s.data.toList++[32]):
  Calls prog 135 #[.string W,.string sub] w fun e w'=>e = .returned (.bool (Df s.data.toList))∧w'=w:=by
 obtain⟨_,m,hm⟩:=hE;have h:=Tryz.strings_Contains W sub m w (by rw[← Ba,hW];decide) hm
 have e:Lib.contains W.data.toList sub.data.toList=Df s.data.toList:=by
  rw[Bool.eq_iff_iff,Sl,Ww _ h0 hb,hW,hsub]
 rw[e] at h;exact h
theorem Wx:Df []=false:=by decide
theorem Sv{s:LB}(h:(32:UInt8) ∈ s):Df s=false:=by
 rw[Bool.eq_false_iff];intro hw;exact(Wd s (by simpa [Df] using hw)).2 h
theorem Ot(s:ByteArray)(hs:s.size≤1000000)(w:World)(hE:Dx w):
  Calls prog 99 #[.string s] w fun e w'=>e = .returned (.bool (Df s.data.toList))∧Fr [] w w':=by
 by_cases h0:s.data.toList=[]
 ·have e0:s.toList.isEmpty=true:=by rw[ByteArray.toList_eq,h0];rfl
  have e1:s.toList=[]:=by rw[ByteArray.toList_eq,h0]
  rw[h0,Wx];go_enter func99,ntmps99;go_wp2_with fail;go_ret;exact⟨rfl,Fr.refl _ _⟩
 ·have e1:¬ s.toList=[]:=by rw[ByteArray.toList_eq];exact h0
  have e0:s.toList.isEmpty=false:=by rw[ByteArray.toList_eq];cases h:s.data.toList with|nil=>exact absurd h h0|cons _ _=>rfl
  by_cases hb:(32:UInt8) ∈ s.data.toList
  ·have c1:=Hz (Jg s w);have e2:s.data.toList.contains 32=true:=List.contains_iff_mem.2 hb;rw[Sv hb];go_enter func99,ntmps99;go_wp2_with fail;refine c1.out.mono ?_;rintro e x1 ⟨rfl,rfl⟩;go_wp2_with fail;go_ret;exact⟨rfl,Fr.refl _ _⟩
  ·have c1:=Hz (Jg s w);have e2:s.data.toList.contains 32=false:=by rw[Bool.eq_false_iff];intro h;exact hb (List.contains_iff_mem.1 h)
   have c2:=fun W hW sub hsub=>Hz (Op s w hE h0 hb W hW sub hsub)
   go_enter func99,ntmps99;go_wp2_with fail;refine c1.out.mono ?_;rintro e x1 ⟨rfl,rfl⟩;go_wp2_with fail;refine(c2 _ (by decide) _ (by simp)).out.mono ?_;rintro e x1 ⟨rfl,rfl⟩;go_wp2_with fail;go_ret;exact⟨rfl,Fr.refl _ _⟩
def Ha(s:ByteArray)(i:Nat):Option Nat:=(Fx (s.data.toList.drop i)).map (·+i)
theorem qrest_end(s:ByteArray)(i:Nat)(h:s.size≤i):Ha s i=none:=by
 unfold Ha;rw[List.drop_of_length_le (by rw[Ba];exact h)];rfl
theorem Vl(s:ByteArray)(i:Nat)(h:i<s.size)(hc:s[i]=34):Ha s i=some (i+1):=by
 unfold Ha;rw[C9 s i h,hc,Vj];simp[Nat.add_comm]
theorem Vk(s:ByteArray)(i:Nat)(h:i<s.size)(h1:s[i]≠92)(h2:s[i]≠34):Ha s i=Ha s (i+1):=by
 unfold Ha;rw[C9 s i h,I8 _ _ h1 h2]
 cases Fx (s.data.toList.drop (i+1))with
 | none=>rfl
 | some k=>simp;omega
theorem qrest_esc(s:ByteArray)(i:Nat)(h:i<s.size)(hc:s[i]=92):Ha s i=Ha s (i+2):=by
 unfold Ha;rw[C9 s i h,hc];by_cases h2:i+1<s.size
 ·rw[C9 s (i+1) h2,Ju]
  cases Fx (s.data.toList.drop (i+1+1))with
  | none=>rfl
  | some k=>simp;omega
 ·rw[List.drop_of_length_le (by rw[Ba];omega),List.drop_of_length_le (by rw[Ba];omega),qlen_one];rfl
def S7(l:LB):Option LB:=(Fx (l.drop 1)).map fun k=>l.take (1+k)
theorem Xq(s:ByteArray)(hs:s.size≤1000000)(w:World):
  Calls prog 112 #[.string s] w fun e w'=>e = .returned (.tuple #[.string ⟨((S7 s.data.toList).getD []).toArray⟩,.bool (S7 s.data.toList).isSome])∧w=w':=by
 have e0:S7 s.data.toList=(Ha s 1).map fun k=>s.data.toList.take k:=by
  unfold S7 Ha
  cases Fx (s.data.toList.drop 1)with
  | none=>rfl
  | some k=>simp[Nat.add_comm]
 rw[e0];clear e0;have HQ:Hid (Ha s 1=Ha s 1):=Hz rfl;generalize hg:Ha s 1=Q at HQ ⊢;have HG:=Hz hg;clear hg;go_enter func112,ntmps112;go_wp2_with fail
 go_loop [4] (fun i=>∃ k:Nat,i=vI k∧k≤s.size+2∧Hid (Ha s k=Q)) (fun i=>s.size-(intOf i).toNat)
 case atStart=>exact⟨1,rfl,by omega,HG⟩
 case round =>
  obtain⟨k,rfl,hk,HK⟩:=hrel;clear HG HQ;by_cases hlt:k<s.size
  ·by_cases h1:s[k]=92
   ·have HK2:=Hz ((qrest_esc s k hlt h1).symm.trans HK.out);have b1:(((s[k].toNat:Nat):Int)==92)=true:=by rw[h1];rfl
    clear h1;go_wp2_with fail
    go_round
    case rel=>exact⟨k+2,by go_num,by omega,HK2⟩
    case measure=>simp[intOf];omega
   ·have b1:(((s[k].toNat:Nat):Int)==92)=false:=by
     rw[bN];intro h;apply h1;apply UInt8.toNat_inj.1;have h9:(92:UInt8).toNat=92:=rfl;omega
    by_cases h2:s[k]=34
    ·have hq:=(Vl s k hlt h2).symm.trans HK.out;subst hq;have b2:(((s[k].toNat:Nat):Int)==34)=true:=by rw[h2];rfl
     have q1:0≤(k:Int)+1∧(k:Int)+1≤(s.size:Int):=by omega
     clear h1 h2 HK;go_wp2_with fail;go_ret2;exact⟨by rw[← Pg];rfl,rfl⟩
    ·have b2:(((s[k].toNat:Nat):Int)==34)=false:=by
      rw[bN];intro h;apply h2;apply UInt8.toNat_inj.1;have h9:(34:UInt8).toNat=34:=rfl;omega
     have HK2:=Hz ((Vk s k hlt h1 h2).symm.trans HK.out);clear h1 h2;go_wp2_with fail
     go_round
     case rel=>exact⟨k+1,by go_num,by omega,HK2⟩
     case measure=>simp[intOf];omega
  ·have hq:=(qrest_end s k (by omega)).symm.trans HK.out;subst hq;go_wp2_with fail;go_ret2;exact⟨rfl,rfl⟩
section
open Go.RowKit Go.Shelf
attribute [local go_sem] Oper.semAt_some
def Ge(k:Nat):LB:=([32]:LB).intercalate (Bf.drop k)
theorem Xx:Ge 0=Qi:=by decide
theorem Xw:∀ k:Fin 19,Lib.indexByte (Ge k.val) 32=((Bf.getD k.val []).length:Nat)∧(Ge k.val).take (Bf.getD k.val []).length=Bf.getD k.val []∧(Ge k.val).drop ((Bf.getD k.val []).length+1)=Ge (k.val+1)∧(Bf.getD k.val []).length+1≤(Ge k.val).length∧1≤(Bf.getD k.val []).length:=by decide +kernel
theorem Qj:Lib.indexByte (Ge 19) 32 = -1∧Ge 19=Bf.getD 19 []:=by decide +kernel
theorem srest_len:∀ k:Nat,k≤19→(Ge k).length≤100:=by
 have h:∀ k:Fin 20,(Ge k.val).length≤100:=by decide +kernel
 exact fun k hk=>h ⟨k,by omega⟩
def Ik(l:LB):Value:=vS l
theorem P9{W:World}{b:Nat}{x:Value}{T:TypeId}{fr:Nat×Nat}(h:W.heap[b]?=some (.cells #[x] T fr))(v:Value):(W.setCell ⟨b,0,none⟩ v).heap[b]?=some (.cells #[v] T fr):=by
 simp[World.setCell,Array.getElem?_modify,h]
def Yq(b:Nat)(w:World):Nat:=match w.cell? ⟨b,0,none⟩with
 | some (.string s)=>s.size
 | _=>0
theorem split_in(n:Nat)(hn:1≤n)(b B:Nat)(hB:b+3≤B)(w:World)
  (hs:w.heap[b]?=some (.cells #[Ik Qi] 9 (0,0))) (hsep:w.heap[b+1]?=some (.cells #[Ik [32]] 9 (0,0))) (hsv:w.heap[b+2]?=some (.cells #[vI 0] 3 (0,0))):
  Yb Fence.wide n prog 199 #[.pointer (some ⟨b+1,0,none⟩),.pointer (some ⟨b,0,none⟩),.pointer (some ⟨b+2,0,none⟩)] (fun x:LB=>#[Ik x]) b B (fun xs=>xs=Bf) (fun pre=>pre <+: Bf) 20 w:=by
 intro l J Jx W hW hJ hJx hY h0;refine callsIn_of_wp func199 rfl trivial ?_ rfl;simp only[ntmps199,List.size_toArray,Lc',Ln',Nat.reduceAdd,Nat.reduceSub,Array.replicate_succ,Array.replicate_zero,List.push_toArray,List.append_toArray,List.nil_append,Lp'];have cs:W.cell? ⟨b,0,none⟩=some (Ik Qi):=by rw[Ae ((hW.block b (by omega)).trans hs)];rfl
 have cp:W.cell? ⟨b+1,0,none⟩=some (Ik [32]):=by rw[Ae ((hW.block (b+1) (by omega)).trans hsep)];rfl
 have cv:W.cell? ⟨b+2,0,none⟩=some (vI 0):=by rw[Ae ((hW.block (b+2) (by omega)).trans hsv)];rfl
 have fz:W.frozen? ⟨b,0,none⟩=false:=Ap ((hW.block b (by omega)).trans hs) 0;unfold Ik at cp
 gi_wp2
 gi_loopw [] (fun wr=>∃ k:Nat,k≤19∧wr.heap[b]?=some (.cells #[Ik (Ge k)] 9 (0,0))∧wr.heap[b+1]?=some (.cells #[Ik [32]] 9 (0,0))∧wr.heap[b+2]?=some (.cells #[vI 0] 3 (0,0))∧J (Bf.take k) wr) (fun wr=>Yq b wr)
 case atStart=>exact⟨0,by omega,by rw[Xx];exact(hW.block b (by omega)).trans hs,(hW.block (b+1) (by omega)).trans hsep,(hW.block (b+2) (by omega)).trans hsv,h0⟩
 case round =>
  obtain⟨k,hk,hb0,hb1,hb2,hJk⟩:=hrel;have cs':wr.cell? ⟨b,0,none⟩=some (Ik (Ge k)):=Ae hb0 0;have fz':wr.frozen? ⟨b,0,none⟩=false:=Ap hb0 0;have cp':wr.cell? ⟨b+1,0,none⟩=some (.string ⟨#[32]⟩):=Ae hb1 0;have cv':wr.cell? ⟨b+2,0,none⟩=some (vI 0):=Ae hb2 0;clear cs cp cv fz;by_cases hlt:k<19
  ·obtain⟨i1,i2,i3,i4,i5⟩:=Xw ⟨k,hlt⟩;simp only at i1 i2 i3 i4 i5;have hlen:(Bf.take k).length=k:=by rw[List.length_take];exact Nat.min_eq_left (by show k≤20;omega)
   have htk:Bf.take k++[Bf.getD k []]=Bf.take (k+1):=by
    rw[List.take_add_one,List.getD_eq_getElem?_getD,Lg' (by show k<20;omega)];rfl
   obtain⟨m,hm⟩:∃ m,(Bf.getD k []).length=m:=⟨_,rfl⟩
   obtain⟨R,hRR⟩:∃ R:ByteArray,R=⟨(Ge k).toArray⟩:=⟨_,rfl⟩
   have hRs:R.size=(Ge k).length:=by rw[hRR];rfl
   have hX:Ik (Bf.getD k [])= .string (R.extract 0 m):=by
    rw[Pg,hRR,← hm];show Ik _ = .string ⟨(List.take _ (Ge k)).toArray⟩;rw[i2];rfl
   have hX2:Value.string (R.extract (m+1) R.size)=Ik (Ge (k+1)):=by
    rw[← i3,hm]
    have e:R.extract (m+1) R.size=⟨((Ge k).drop (m+1)).toArray⟩:=by
     apply ByteArray.ext;apply Array.ext';have:=Lib.extract_to_end R (m+1);rw[this,hRR]
    rw[e];rfl
   have hY1:=hY (Bf.take k) (Bf.getD k []) wr hJk (by omega);rw[hX,htk] at hY1;obtain⟨fn,tmps,assign,body,hy,hR⟩:=hY1;have hix:=Tryz.strings_Index_one R 32 wr;have i1':Lib.indexByte R.data.toList 32=(m:Nat):=by rw[hRR,← hm];exact i1
   rw[i1'] at hix;have cs2:wr.cell? ⟨b,0,none⟩=some (.string R):=by rw[cs',hRR];rfl
   have hmR:m+1≤R.size:=by omega
   have hRb:R.size≤100:=by rw[hRs];exact srest_len k hk
   have q1:0≤(m:Int)∧(m:Int)≤(R.size:Int):=by omega
   have q2:0≤(m:Int)+1∧(m:Int)+1≤(R.size:Int):=by omega
   have HX2:=Hz hX2;have HL:=Hz (show(Ge (k+1)).length<R.size by rw[← i3,List.length_drop];omega);clear i1 i2 i3 i4 i5 i1' hX hX2 htk hm hRR hRs cs' hY hlen
   gi_wp2_with (refine⟨trivial,?_⟩;gi_at_call 158;refine(callsIn_wide.2 hix).mono ?_;rintro e x1 ⟨rfl,rfl⟩)
   refine hR.mono ?_;rintro e V (⟨rfl,hJ',hk'⟩| ⟨rfl,hJx'⟩)
   ·have vb0:=(hk'.block b (by omega)).trans hb0;have vb1:=(hk'.block (b+1) (by omega)).trans hb1;have vb2:=(hk'.block (b+2) (by omega)).trans hb2;have d0:V.cell? ⟨b,0,none⟩=some (.string R):=by rw[Ae vb0,← cs2,Ae hb0]
    have d1:V.cell? ⟨b+1,0,none⟩=some (.string ⟨#[32]⟩):=Ae vb1 0;have d2:V.frozen? ⟨b,0,none⟩=false:=Ap vb0 0;have hl0:Yq b x1=R.size:=by unfold Yq;rw[cs2]
    clear cs2 fz' cp' cv' hJk
    gi_wp2
    rw[HX2.out];refine⟨⟨k+1,by omega,P9 vb0 _,(B0 (by omega)).trans vb1,(B0 (by omega)).trans vb2,hJ.2 _ _ _ hJ'⟩,?_⟩;rw[hl0];unfold Yq;rw[Ae (P9 vb0 _)];exact HL.out
   ·gi_wp2
    refine bodyPost_ret (results_none rfl _ _ _) rfl ?_;exact⟨⟨_,rfl⟩,.inr ⟨Bf.take (k+1),List.take_prefix _ _,hJx'⟩⟩
  ·have hk9:k=19:=by omega
   subst hk9
   obtain⟨R,hRR⟩:∃ R:ByteArray,R=⟨(Ge 19).toArray⟩:=⟨_,rfl⟩
   have hX:Ik (Bf.getD 19 [])= .string R:=by rw[← Qj.2,hRR];rfl
   have hY1:=hY (Bf.take 19) (Bf.getD 19 []) wr hJk (by decide);rw[hX,show Bf.take 19++[Bf.getD 19 []]=Bf from by decide] at hY1;obtain⟨fn,tmps,assign,body,hy,hR⟩:=hY1;have hix:=Tryz.strings_Index_one R 32 wr;have i1':Lib.indexByte R.data.toList 32 = -1:=by rw[hRR];exact Qj.1
   rw[i1'] at hix;have cs2:wr.cell? ⟨b,0,none⟩=some (.string R):=by rw[cs',hRR];rfl
   clear i1' hX hRR cs' hY
   gi_wp2_with (refine⟨trivial,?_⟩;gi_at_call 158;refine(callsIn_wide.2 hix).mono ?_;rintro e x1 ⟨rfl,rfl⟩)
   refine hR.mono ?_;rintro e V (⟨rfl,hJ',hk'⟩| ⟨rfl,hJx'⟩)
   ·gi_wp2
    go_end0
    exact⟨⟨_,rfl⟩,.inl ⟨Bf,rfl,hJ'⟩⟩
   ·gi_wp2
    go_end0
    exact⟨⟨_,rfl⟩,.inr ⟨Bf,List.prefix_refl _,hJx'⟩⟩
end
section
open Go.RowKit Go.Shelf
attribute [local go_sem] Oper.semAt_some
def Ll(p s:LB):Bool:=p.isPrefixOf s
theorem Nx(s p:ByteArray)(_hs:s.size≤1000000)(w:World):
  Calls prog 176 #[.string s,.string p] w fun e w'=>e = .returned (.bool (Ll p.data.toList s.data.toList))∧w=w':=by
 have hi:=pfx_iff s p.data.toList;rw[Ba] at hi;have hb:Ll p.data.toList s.data.toList=true↔p.size≤s.size∧((s.extract 0 p.size).toList==p.data.toList)=true:=by unfold Ll;rw[List.isPrefixOf_iff_prefix];exact hi
 by_cases hl:p.size≤s.size
 ·have l1:decide ((p.size:Int)≤(s.size:Int))=true:=decide_eq_true (by omega);have l2:(p.size:Int)≤(s.size:Int):=by omega
  have he:Ll p.data.toList s.data.toList=((s.extract 0 p.size).toList==p.toList):=by
   rw[Bool.eq_iff_iff,hb,ByteArray.toList_eq p];exact⟨fun h=>h.2,fun h=>⟨hl,h⟩⟩
  rw[he];clear hb hi he;go_enter func176,ntmps176;go_wp2_with fail;go_ret;exact⟨rfl,rfl⟩
 ·have l1:decide ((p.size:Int)≤(s.size:Int))=false:=decide_eq_false (by omega);have l2:¬ (p.size:Int)≤(s.size:Int):=by omega
  have he:Ll p.data.toList s.data.toList=false:=by rw[Bool.eq_false_iff];intro h;exact hl (hb.1 h).1
  rw[he];clear hb hi he;go_enter func176,ntmps176;go_wp2_with fail;go_ret;exact⟨rfl,rfl⟩
theorem Qr(s p:ByteArray)(hs:s.size≤1000000)(w:World):
  Calls prog 145 #[.string s,.string p] w fun e w'=>e = .returned (.bool (Ll p.data.toList s.data.toList))∧w=w':=by
 have c:=Hz (Nx s p hs w);go_enter func145,ntmps145;go_wp2_with fail;refine c.out.mono ?_;rintro e x1 ⟨rfl,rfl⟩;go_wp2_with fail;go_ret;exact⟨rfl,rfl⟩
def seqW(w:World)(s sep:ByteArray):World:=((w.alloc (.cells #[.string s] 9)).alloc (.cells #[.string sep] 9)).alloc (.cells #[vI 0] 3)
theorem Tb(s sep:ByteArray)(w:World):
  Calls prog 175 #[.string s,.string sep,vI 0] w fun e w'=>e = .returned (.func (.func 199) #[] #[.pointer (some ⟨w.heap.size+1,0,none⟩),.pointer (some ⟨w.heap.size,0,none⟩),.pointer (some ⟨w.heap.size+2,0,none⟩)])∧w'=seqW w s sep:=by
 go_enter func175,ntmps175;go_wp2_with fail;go_ret;exact⟨rfl,rfl⟩
theorem Sc(s sep:ByteArray)(w:World):
  Calls prog 144 #[.string s,.string sep] w fun e w'=>e = .returned (.func (.func 199) #[] #[.pointer (some ⟨w.heap.size+1,0,none⟩),.pointer (some ⟨w.heap.size,0,none⟩),.pointer (some ⟨w.heap.size+2,0,none⟩)])∧w'=seqW w s sep:=by
 go_enter func144,ntmps144;go_wp2_with fail;refine(Tb s sep w).mono ?_;rintro e x1 ⟨rfl,rfl⟩;go_wp2_with fail;go_ret;exact⟨rfl,rfl⟩
theorem Ld{A B:World}{row:Option Nat}{k:Nat}{cs:Array Value}{T:TypeId}{fr:Nat×Nat}(h:A.heap[k]?=some (.cells cs T fr))(hg:A.grownBy B row)(hr:∀ r,row=some r→∃ o:Obj,A.heap[r]?=some o∧o.isCells=false):B.heap[k]?=some (.cells cs T fr):=by
 refine(hg.block k (Array.getElem?_eq_some_iff.1 h).1 ?_).trans h;intro e;obtain⟨o,ho,hc⟩:=hr k e.symm;rw[h] at ho;cases ho;cases hc
theorem Zt{p:LB→Bool}{l pre:List LB}{x:LB}(hp:pre++[x] <+: l)(hn:∀ y ∈ pre,p y=false)(hx:p x=true):l.find? p=some x:=by
 obtain⟨r,rfl⟩:=hp;rw[Ls',List.find?_append,List.find?_eq_none.2 (fun y hy=>by simp[hn y hy])];simp[hx]
theorem Zu(w:World)(o1 o2 o3 o4 o5:Obj):let W0:=((((w.alloc o1).alloc o2).alloc o3).alloc o4).alloc o5
  W0.heap[w.heap.size]?=some o1∧W0.heap[w.heap.size+1]?=some o2∧W0.heap[w.heap.size+1+1]?=some o3∧W0.heap[w.heap.size+1+1+1]?=some o4∧W0.heap[w.heap.size+1+1+2]?=some o5∧Below w.heap.size w W0:=by
 have n1:=World.alloc_heap_new w o1;have n2:=World.alloc_heap_new (w.alloc o1) o2;have n3:=World.alloc_heap_new ((w.alloc o1).alloc o2) o3;have n4:=World.alloc_heap_new (((w.alloc o1).alloc o2).alloc o3) o4;have n5:=World.alloc_heap_new ((((w.alloc o1).alloc o2).alloc o3).alloc o4) o5;simp only[World.size_alloc] at n2 n3 n4 n5;have old:∀ (V:World) (o:Obj) (k:Nat),k<V.heap.size→(V.alloc o).heap[k]?=V.heap[k]?:=fun V o k h=>Below.heap_alloc V o k h
 refine⟨?_,?_,?_,?_,n5,?_⟩
 ·rw[old _ _ _ (by simp only[World.size_alloc];omega),old _ _ _ (by simp only[World.size_alloc];omega),old _ _ _ (by simp only[World.size_alloc];omega),old _ _ _ (by simp only[World.size_alloc];omega)];exact n1
 ·rw[old _ _ _ (by simp only[World.size_alloc];omega),old _ _ _ (by simp only[World.size_alloc];omega),old _ _ _ (by simp only[World.size_alloc];omega)];exact n2
 ·rw[old _ _ _ (by simp only[World.size_alloc];omega),old _ _ _ (by simp only[World.size_alloc];omega)];exact n3
 ·rw[old _ _ _ (by simp only[World.size_alloc];omega)];exact n4
 ·exact(((((Below.refl _ w).alloc (Nr' _) _).alloc (by simp only[World.size_alloc];omega) _).alloc (by simp only[World.size_alloc];omega) _).alloc (by simp only[World.size_alloc];omega) _).alloc (by simp only[World.size_alloc];omega) _
def I9(l:LB):LB:=(Bf.find? (fun x=>Ll x l)).getD []
theorem Qg(s:ByteArray)(hs:s.size≤1000000)(w:World):
  Calls prog 114 #[.string s] w fun e w'=>e = .returned (.string ⟨(I9 s.data.toList).toArray⟩)∧Below w.heap.size w w':=by
 refine(callsIn_wide (n:=3)).1 ?_;refine callsIn_of_wp_marks func114 rfl trivial ?_ rfl;simp only[ntmps114,List.size_toArray,Lc',Ln',Nat.reduceAdd,Nat.reduceSub,Array.replicate_succ,Array.replicate_zero,List.push_toArray,List.append_toArray,List.nil_append,Lp']
 gi_wp2_with (refine⟨trivial,?_⟩;gi_at_call 144;refine(callsIn_wide.2 (Sc _ _ _)).mono ?_;rintro e x1 ⟨rfl,rfl⟩)
 generalize hsv:(ByteArray.mk #[45,62,32,58,61,32,38,38,32,124,124,32,40,32,41,32,123,32,125,32,61,32,59,32,44,32,46,32,124,32,43,32,45,32,42,32,47,32,37,32,60,32,33])=sv at *
 obtain⟨W0,hW0⟩:∃ W0,seqW ((w.alloc (.cells #[.string s] 9)).alloc (.cells #[vE] 9)) sv ⟨#[32]⟩=W0:=⟨_,rfl⟩
 rw[hW0];have z0:W0.heap.size=w.heap.size+5:=by rw[← hW0];simp only[seqW,World.size_alloc]
 have hf:=Zu w (.cells #[.string s] 9) (.cells #[vE] 9) (.cells #[.string sv] 9) (.cells #[.string ⟨#[32]⟩] 9) (.cells #[vI 0] 3);simp only at hf;unfold seqW at hW0;rw[hW0] at hf;obtain⟨b0,b1,b2',b3,b4,bw⟩:=hf;have hsv2:sv=⟨Qi.toArray⟩:=by rw[← hsv];rfl
 have b2:W0.heap[w.heap.size+1+1]?=some (.cells #[Ik Qi] 9 (0,0)):=by rw[b2',hsv2];rfl
 clear hsv hsv2 b2'
 refine Xr (F:=Fence.wide) (n:=3) rfl (by decide) (gf:=199) (lb:=#[.pointer (some ⟨w.heap.size+1+1+1,0,none⟩),.pointer (some ⟨w.heap.size+1+1,0,none⟩),.pointer (some ⟨w.heap.size+1+1+2,0,none⟩)]) rfl trivial (enters_of func199 (by kernel_rfl) rfl)
  (encs:=fun x:LB=>#[Ik x]) (S:=fun xs=>xs=Bf) (Sp:=fun pre=>pre <+: Bf) (N:=20) (Bs:=w.heap.size+1+1) (by omega)
  (split_in 2 (by decide) (w.heap.size+1+1) W0.heap.size (by omega) W0 b2 b3 b4) (fun _=>rfl)
  (fun pre W=>W.heap[w.heap.size]?=some (.cells #[.string s] 9 (0,0))∧W.heap[w.heap.size+1]?=some (.cells #[vE] 9 (0,0))∧Below w.heap.size w W∧∀ y ∈ pre,Ll y s.data.toList=false)
  (fun pre W=>∃ pre' x,pre=pre'++[x]∧(∀ y ∈ pre',Ll y s.data.toList=false)∧Ll x s.data.toList=true∧W.heap[w.heap.size+1]?=some (.cells #[Ik x] 9 (0,0))∧Below w.heap.size w W)
  (fun pre A B row hs hg hr=>⟨Ld hs.1 hg (fun r e=>(hr r e).2),Ld hs.2.1 hg (fun r e=>(hr r e).2),hs.2.2.1.grown hg hs.2.2.1.size (fun k e=>by have:=(hr k e).1;omega),hs.2.2.2⟩)
  (fun pre A v hs=>⟨(B0 (by omega)).trans hs.1,(B0 (by omega)).trans hs.2.1,hs.2.2.1.setCell (p:=⟨w.heap.size+1+1,0,none⟩) (by show w.heap.size≤w.heap.size+1+1;omega) _,hs.2.2.2⟩)
  (fun pre A B row hs hg hr=>by
   obtain⟨pre',x,e,h1,h2,h3,h4⟩:=hs
   exact⟨pre',x,e,h1,h2,Ld h3 hg (fun r e=>(hr r e).2),h4.grown hg h4.size (fun k e=>by have:=(hr k e).1;omega)⟩)
  (fun pre A v hs=>by
   obtain⟨pre',x,e,h1,h2,h3,h4⟩:=hs
   exact⟨pre',x,e,h1,h2,(B0 (by omega)).trans h3,h4.setCell (p:=⟨w.heap.size+1+1,0,none⟩) (by show w.heap.size≤w.heap.size+1+1;omega) _⟩)
  ⟨b0,b1,bw,fun _ h=>by cases h⟩
  (fun x=>{ tmps:=#[.string s,.pointer (some ⟨w.heap.size,0,none⟩),.pointer (some ⟨w.heap.size+1,0,none⟩),Ik x,.func (.func 199) #[] #[.pointer (some ⟨w.heap.size+1+1+1,0,none⟩),.pointer (some ⟨w.heap.size+1+1,0,none⟩),.pointer (some ⟨w.heap.size+1+1+2,0,none⟩)],Ik x,undef,undef,undef,undef],defers:=[] }) ?assign ?body ?done ?stop
 case assign =>
  intro l x W K hK
  gi_wp2
  exact hK
 case body =>
  rintro l pre x W ⟨h0,h1,h2,h3⟩ _;have c0:W.cell? ⟨w.heap.size,0,none⟩=some (.string s):=Ae h0 0;have f1:W.frozen? ⟨w.heap.size+1,0,none⟩=false:=Ap h1 0;have d1:W.cell? ⟨w.heap.size+1,0,none⟩=some (vE):=Ae h1 0;have hp:=Qr s ⟨x.toArray⟩ hs W;have ex:Ll (ByteArray.mk x.toArray).data.toList s.data.toList=Ll x s.data.toList:=rfl;rw[ex] at hp;unfold Ik
  cases hx:Ll x s.data.toList with
  | true =>
   rw[hx] at hp;clear ex
   gi_wp2_with (refine⟨trivial,?_⟩;gi_at_call 145;refine(CallsIn.inRound l (callsIn_wide.2 hp)).mono ?_;rintro e x1 ⟨rfl,rfl⟩)
   exact⟨KeepsOthers.setCell _ _ _,pre,x,⟨rfl,rfl⟩,h3,hx,P9 h1 _,h2.setCell (p:=⟨w.heap.size+1,0,none⟩) (by show w.heap.size≤w.heap.size+1;omega) _⟩
  | false =>
   rw[hx] at hp;clear ex
   gi_wp2_with (refine⟨trivial,?_⟩;gi_at_call 145;refine(CallsIn.inRound l (callsIn_wide.2 hp)).mono ?_;rintro e x1 ⟨rfl,rfl⟩)
   refine⟨KeepsOthers.refl _,Below.refl _ _,fun y hy=>?_⟩;rcases hy with hy|rfl
   ·exact h3 y hy
   ·exact hx
 case done =>
  rintro D xs W hD rfl ⟨h0,h1,h2,h3⟩ hK
  have hr:I9 s.data.toList=[]:=by
   unfold I9;rw[List.find?_eq_none.2 (fun y hy=>by simp[h3 y hy])];rfl
  have f1:W.frozen? ⟨w.heap.size+1,0,none⟩=false:=Ap h1 0;have d1:W.cell? ⟨w.heap.size+1,0,none⟩=some (vE):=Ae h1 0
  gi_wp2
  have hK':=(KeepsOthers.setCell W ⟨w.heap.size+1,0,none⟩ (vE)).same D _ hK rfl;refine⟨by simp,.inl ⟨_,_,rfl,run_takeDeferred hK',?_⟩⟩;have hc5:=cell_kept (World.cell?_setCell_same' W ⟨w.heap.size+1,0,none⟩ (vE) (by rw[d1];rfl)) (grownBy_putObj' _ D (.deferred none)) (fun r e=>by cases e;exact⟨_,hK',rfl⟩);refine⟨vE,?_,by rw[hr],?_⟩
  ·simp[results,Tryz.f114,go_sem,hc5]
  ·exact(h2.setCell (p:=⟨w.heap.size+1,0,none⟩) (by show w.heap.size≤w.heap.size+1;omega) _).grown (grownBy_putObj' _ D (.deferred none)) (h2.setCell (p:=⟨w.heap.size+1,0,none⟩) (by show w.heap.size≤w.heap.size+1;omega) (vE)).size (fun k e=>by cases e;omega)
 case stop =>
  rintro D pre W hD hp ⟨pre',x,rfl,h1,h2,h3,h4⟩ hK
  have hr:I9 s.data.toList=x:=by
   unfold I9;rw[Zt hp h1 h2];rfl
  have d1:W.cell? ⟨w.heap.size+1,0,none⟩=some (Ik x):=Ae h3 0
  gi_wp2
  refine⟨by simp,.inl ⟨_,_,rfl,run_takeDeferred hK,?_⟩⟩;have hc5:=cell_kept d1 (grownBy_putObj' _ D (.deferred none)) (fun r e=>by cases e;exact⟨_,hK,rfl⟩);refine⟨Ik x,?_,by rw[hr];rfl,?_⟩
  ·simp[results,Tryz.f114,go_sem,hc5]
  ·exact h4.grown (grownBy_putObj' _ D (.deferred none)) h4.size (fun k e=>by cases e;omega)
end
theorem Kv(p:UInt8→Bool):∀ l:LB,l.takeWhile p=l↔l.all p=true
 | []=>by simp
 | c::r=>by
  by_cases h:p c=true
  ·rw[List.takeWhile_cons_of_pos h,List.all_cons,h,Bool.true_and,← Kv p r];simp
  ·rw[List.takeWhile_cons_of_neg h,List.all_cons];simp[h]
theorem Ew(s:ByteArray)(hs:s.size≤1000000)(w:World)(hE:Dx w):
  Calls prog 60 #[.string s] w fun e w'=>e = .returned (.bool (As s.data.toList))∧Fr [] w w':=by
 by_cases h0:s.data.toList=[]
 ·have e0:s.toList.isEmpty=true:=by rw[ByteArray.toList_eq,h0];rfl
  have e1:s.toList=[]:=by rw[ByteArray.toList_eq,h0]
  rw[h0];go_enter func60,ntmps60;go_wp2_with fail;go_ret;exact⟨rfl,Fr.refl _ _⟩
 ·have e1:¬ s.toList=[]:=by rw[ByteArray.toList_eq];exact h0
  have e0:s.toList.isEmpty=false:=by rw[ByteArray.toList_eq];cases h:s.data.toList with|nil=>exact absurd h h0|cons _ _=>rfl
  have hp:0<s.size:=by rw[← Ba];exact List.length_pos_iff.2 h0
  have hd:As s.data.toList=(Dl s[0]&&s.data.toList.all Cq && !Df s.data.toList):=by
   have h1:s.data.toList=s[0]::s.data.toList.drop 1:=by
    have:=C9 s 0 hp;simpa using this
   rw[h1];rfl
  have hrun:(Cc s.data.toList==s.toList)=s.data.toList.all Cq:=by
   rw[ByteArray.toList_eq,Bool.eq_iff_iff,beq_iff_eq];exact Kv Cq _
  have wv:wrap32 ((s[0].toNat:Nat):Int)=((s[0].toNat:Nat):Int):=by have:=s[0].toNat_lt;unfold wrap32;omega
  rw[hd];clear hd;have hsm:=Cw s[0]
  cases hb1:Dl s[0] with
  | false =>
   rw[hb1] at hsm;go_enter func60,ntmps60;go_wp2_with fail;refine(B5 _ _).mono ?_;rintro e x1 ⟨rfl,rfl⟩;go_wp2_with fail;go_ret
   exact⟨rfl,Fr.refl _ _⟩
  | true =>
   rw[hb1] at hsm
   cases hb2:s.data.toList.all Cq with
   | false =>
    rw[hb2] at hrun;go_enter func60,ntmps60;go_wp2_with fail;refine(B5 _ _).mono ?_;rintro e x1 ⟨rfl,rfl⟩;go_wp2_with fail;refine(Ki s (by omega) _).mono ?_;rintro e x1 ⟨rfl,h1⟩;go_wp2_with fail;go_ret
    exact⟨rfl,h1⟩
   | true =>
    rw[hb2] at hrun;go_enter func60,ntmps60;go_wp2_with fail;refine(B5 _ _).mono ?_;rintro e x1 ⟨rfl,rfl⟩;go_wp2_with fail;refine(Ki s (by omega) _).mono ?_;rintro e x1 ⟨rfl,h1⟩;go_wp2_with fail;refine(Ot s hs _ (hE.fr h1)).mono ?_;rintro e x2 ⟨rfl,h2⟩;go_wp2_with fail;go_ret;exact⟨rfl,h1.trans h2⟩
end Go.Proofs.YtabhpdhajajoiaaGreatDoor
