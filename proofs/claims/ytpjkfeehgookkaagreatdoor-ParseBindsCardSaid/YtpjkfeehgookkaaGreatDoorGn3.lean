/- A part of the proof: W4, W7, W8, W9, W10, W11, W12, L1, L2. -/
import Derived.Test.YtpjkfeehgookkaaGreatDoorRows
import Derived.Test.YtpjkfeehgookkaaGreatDoorShelf
import Derived.Lib.Builder
import Derived.Lib.AppendStr
import Derived.Lib.UnsafeStr
import Derived.Lib.Bytes
import Derived.Laws.Externs
import Derived.Shelf.Strings.SlTrimAscii
import Derived.Lib.ConvBytes
import Derived.Deep.RegionWith
import Derived.Lib.OthersKept
import Derived.Lib.IndexMore
import Derived.Lib.IndexBytes
import Derived.Test.YtpjkfeehgookkaaGreatDoorGn1
namespace Go.Proofs.YtpjkfeehgookkaaGreatDoor
open Go.RowKit
open _root_.Go.Proofs.Tryz
set_option linter.all false
set_option maxHeartbeats 16000000
set_option maxRecDepth 100000
open List renaming length_cons→Lc',length_append→La',getElem?_eq_getElem→Lg',length_nil→Ln'
open Nat renaming lt_of_lt_of_le→Nl',le_refl→Nr'
open Bool renaming and_eq_true→Ba'
def G0(T:TypeId)(b:Nat)(own:Option Nat)(l:LB)(w:World):Prop :=
 ∃ p v,(p = .pointer none∨p = .pointer (some ⟨b,0,none⟩))∧w.heap[b]?=some (.cells #[p,v] T (0,0))∧w.ownsRow 0 5 1 v l.length (Lib.byteCells l)∧v.ownBlock=own
abbrev Bld:=G0 101
def BT(T:TypeId):Prop:=liesAt prog prog.depth T (2 / prog.cellsOf T) 0 101 1=true∧T≠5
theorem G0.fresh(T:TypeId)(w:World):G0 T w.heap.size none [] (w.alloc (.cells #[.pointer none,vZ] T)):=
 ⟨_,_,.inl rfl,Ab w _,World.ownsRow_nil _ _ _ _,rfl⟩
theorem Bld.fresh(w:World):Bld w.heap.size none [] (w.alloc (.cells #[.pointer none,vZ] 101)):=G0.fresh _ w
theorem G0.own_ne{T:TypeId}{b:Nat}{own:Option Nat}{l:LB}{w:World}(h:G0 T b own l w)(hT:BT T):own≠some b:=by
 obtain⟨p,v,_,hb,hown,rfl⟩:=h;exact Lib.ownBlock_ne hown hb hT.2
theorem G0.lt{T:TypeId}{b:Nat}{own:Option Nat}{l:LB}{w:World}(h:G0 T b own l w):b<w.heap.size:=by
 obtain⟨p,v,_,hb,_⟩:=h;exact Aa hb
theorem G0.own_lt{T:TypeId}{b:Nat}{own:Option Nat}{l:LB}{w:World}(h:G0 T b own l w):∀ g,own=some g→g<w.heap.size:=by
 obtain⟨p,v,_,hb,hown,rfl⟩:=h;exact fun g hg=>(hown.lt g hg).2
theorem G0.keep{T:TypeId}{b:Nat}{own:Option Nat}{l:LB}{w w':World}{L:List Nat}(h:G0 T b own l w)(hf:Fr L w w')(h1:b ∉ L)(h2:∀ g,own=some g→g ∉ L):G0 T b own l w':=by
 obtain⟨p,v,hp,hb,hown,ho⟩:=h;refine⟨p,v,hp,hf.keep hb h1,⟨hown.1,?_⟩,ho⟩
 rcases hown.2 with hn|⟨g,cap,cur,hv,hb2,hg,Di⟩
 ·exact .inl hn
 ·exact .inr ⟨g,cap,cur,hv,hb2,hf.keep hg (h2 g (by rw[← ho,hv];rfl)),Di⟩
theorem Ma:(prog.info? 5).map (fun i=>(i.zero,i.size,i.bytes))=some (some (.int .u8 0),1,1):=by kernel_rfl
theorem Is:(prog.info? 101).map (·.size)=some 2:=by kernel_rfl
theorem Gt:BT 101:=⟨by kernel_rfl,by decide⟩
theorem Jg(b:Nat)(w:World)(h0:w.cell? ⟨b,0,none⟩=some (.pointer (some ⟨b,0,none⟩))):
  Calls prog 104 #[.pointer (some ⟨b,0,none⟩)] w fun e w'=>e = .returned (.tuple #[])∧w=w':=by
 obtain⟨j,hj,_⟩:=Option.map_eq_some_iff.1 Is;go_enter func104,ntmps104
 go_wp2
 rw[Lib.run_neq_ptr_same w _ underlying99 hj]
 go_wp2
 go_end0
 exact⟨rfl,rfl⟩
theorem Iz(T:TypeId)(hT:BT T)(b:Nat)(w:World)(h0:w.cell? ⟨b,0,none⟩=some (.pointer none))(hsh:w.shape? b=some (T,2))(hfz:w.frozen? ⟨b,0,none⟩=false):
  Calls prog 104 #[.pointer (some ⟨b,0,none⟩)] w fun e w'=>e = .returned (.tuple #[])∧w'=w.setCell ⟨b,0,none⟩ (.pointer (some ⟨b,0,none⟩)):=by
 obtain⟨j,hj,hjs⟩:=Option.map_eq_some_iff.1 Is;go_enter func104,ntmps104
 go_wp2
 rw[Lib.run_to_unsafe w ⟨b,0,none⟩ underlying99 underlying138 hj (by rw[hjs];decide) hsh (Nat.zero_lt_succ 1)];simp only[Result.andThen];rw[Oper.upon_value]
 go_wp2
 rw[run_callFunc_extern func128 (by kernel_rfl) (by kernel_rfl) (by kernel_rfl) (e:=Extern.AbiNoEscape.same) (by kernel_rfl)];rw[Lib.run_noEscape];simp only[Result.andThen];rw[Oper.upon_value]
 go_wp2
 rw[Lib.run_from_unsafe w ⟨b,0,none⟩ underlying138 underlying99 hj hsh hT.1];simp only[Result.andThen];rw[Oper.upon_value]
 go_wp2
 go_end0
 exact⟨rfl,rfl⟩
theorem Io(T:TypeId)(hT:BT T)(b:Nat)(own:Option Nat)(l:LB)(w:World)(h:G0 T b own l w):
  Calls prog 104 #[.pointer (some ⟨b,0,none⟩)] w fun e w'=>e = .returned (.tuple #[])∧(∃ v,w'.heap[b]?=some (.cells #[.pointer (some ⟨b,0,none⟩),v] T (0,0))∧w'.ownsRow 0 5 1 v l.length (Lib.byteCells l)∧v.ownBlock=own)∧Fr [b] w w':=by
 have hne:=h.own_ne hT;obtain⟨p,v,hp,hb,hown,ho⟩:=h;rcases hp with rfl|rfl
 ·refine(Iz T hT b w (by rw[Af hb];rfl) (by simp[World.shape?,hb]) (Ap hb 0)).mono ?_;rintro e w' ⟨rfl,rfl⟩;refine⟨rfl,⟨v,by simp[World.setCell,Array.getElem?_modify,hb],?_,ho⟩,(Fr.refl [b] w).setCell (p:=⟨b,0,none⟩) (.inl (by simp)) _⟩;exact hown.kept (row:=some b) ⟨rfl,rfl,rfl,by simp[World.setCell],fun k _ hk=>Below.heap_setCell _ _ _ _ (fun e=>hk (by simp[e]))⟩ (Or.inr (by rw[ho];exact hne))
 ·refine(Jg b w (by rw[Af hb];rfl)).mono ?_;rintro e w' ⟨rfl,rfl⟩;exact⟨rfl,⟨v,hb,hown,ho⟩,Fr.refl _ _⟩
structure Q3 (T:TypeId)(b:Nat)(own:Option Nat)(l:LB)(w w':World):Prop where
 out:∃ own',G0 T b own' l w'∧∀ g,own'=some g→own=some g∨w.heap.size≤g
 fr:Fr (b::own.toList) w w'
abbrev Q2:=Q3 101
theorem Ka(b:Nat)(own:Option Nat)(l:LB)(c:Int)(c0:0≤c)(c1:c≤255)(w:World)(h:Bld b own l w)(hlen:l.length+1≤140737488355328):
  Calls prog 76 #[.pointer (some ⟨b,0,none⟩),.int .u8 c] w fun e w'=>e = .returned .nilIface∧Q2 b own (l++[UInt8.ofNat c.toNat]) w w':=by
 obtain⟨i0,hi,hz0,hz1,hz2⟩:=info_parts Ma;have hne:=h.own_ne Gt;have hol:=h.own_lt
 have hcell:Lib.byteCells (l++[UInt8.ofNat c.toNat])=Lib.byteCells l++[.int .u8 c]:=by
  have:=ofNat_toNat c c0 c1;simp only[Lib.byteCells,List.map_append,List.map_cons,List.map_nil,this]
 have Hc:=Hz hcell;clear hcell;go_enter func76,ntmps76;go_wp2_with (go_at_call 104;refine(Io _ Gt b own l _ h).mono ?_);rintro e w1 ⟨rfl,⟨v,hbk,hown,ho⟩,hf1⟩;have HO:=Hz ho;clear ho;have d0:w1.cell? ⟨b,0,none⟩=some (.pointer (some ⟨b,0,none⟩)):=by rw[Af hbk];rfl
 have d1:w1.cell? ⟨b,1,none⟩=some v:=by rw[Af hbk];rfl
 go_wp2_with (at_builtin;refine Dj _ rfl _ _ 82 rfl 5 i0 (.int .u8 0) 1 1 underlying82 hi hz0 hz1 hz2 rfl (by decide) _ _ _ rfl (hown.alloc _) ⟨w1.heap.size,0,none⟩ 1 1 [.int .u8 c] rfl rfl ?c1 ?c2 ?c3 ?c4 ?_)
 case c1 =>
  intro j u hj
  match j,hj with
  | 0,hj=>simp at hj;subst hj;simp[Addr.add]
 case c2=>intro u hu;simp at hu;subst hu;rfl
 case c3=>unfold maxLen;omega
 case c4=>omega
 intro v' w2 hown' hgrow hfp;have hlt:b<w1.heap.size:=Aa hbk
 have hb2:w2.heap[b]?=some (.cells #[.pointer (some ⟨b,0,none⟩),v] 101 (0,0)):=by
  rw[hgrow.block b (by simp;omega) (fun e=>hne (by rw[← HO.out,← e])),Lib.alloc_old w1 _ b hlt];exact hbk
 have e0:w2.cell? ⟨b,0,none⟩=some (.pointer (some ⟨b,0,none⟩)):=by rw[Af hb2];rfl
 have e1:w2.cell? ⟨b,1,none⟩=some v:=by rw[Af hb2];rfl
 have f1:w2.frozen? ⟨b,1,none⟩=false:=Ap hb2 1
 obtain⟨g,cap,rfl⟩:∃ g cap,v' = .slice (some ⟨g,0,none⟩) (l.length+1) cap:=by
  rcases hown'.2 with⟨_,h0⟩| ⟨g,cap,cur,hv,_⟩
  ·omega
  ·exact⟨g,cap,hv⟩
 have hf2:Fr (b::own.toList) w w2:=by
  refine((hf1.mono (L':=b::own.toList) (fun x hx => .inl (by simp at hx;simp[hx]))).alloc (.cells #[.int .u8 c] 5)).append hgrow ?_;intro g hg;rw[HO.out] at hg;exact .inl (by simp[hg])
 go_wp2
 go_ret;have hown2:w2.ownsRow 0 5 1 (.slice (some ⟨g,0,none⟩) (l.length+1) cap) (l.length+1) (Lib.byteCells (l++[UInt8.ofNat c.toNat])):=by rw[Hc.out];exact hown'
 have hgb:(Value.slice (some ⟨g,0,none⟩) (l.length+1) cap).ownBlock≠some b:=Lib.ownBlock_ne hown2 hb2 (by decide);refine⟨rfl,⟨some g,⟨_,.slice (some ⟨g,0,none⟩) (l.length+1) cap,.inr rfl,by simp[World.setCell,Array.getElem?_modify,hb2],?_,rfl⟩,?_⟩,?_⟩
 ·have:(l++[UInt8.ofNat c.toNat]).length=l.length+1:=by simp
  rw[this];exact hown2.kept (row:=some b) ⟨rfl,rfl,rfl,by simp[World.setCell],fun k _ hk=>Below.heap_setCell _ _ _ _ (fun e=>hk (by simp[e]))⟩ (Or.inr hgb)
 ·intro g' hg';rcases hfp g' hg' with h1|h1
  ·exact .inl (by rw[← HO.out,h1])
  ·refine .inr ?_;have:=hf1.size;have h2:(w1.alloc (.cells #[.int .u8 c] 5)).heap.size=w1.heap.size+1:=by simp
   omega
 ·exact hf2.setCell (p:=⟨b,1,none⟩) (.inl (by simp)) _
theorem Kb(T:TypeId)(hT:BT T)(b:Nat)(own:Option Nat)(l:LB)(s:ByteArray)(w:World)(h:G0 T b own l w)(hlen:l.length+s.size≤140737488355328):
  Calls prog 106 #[.pointer (some ⟨b,0,none⟩),.string s] w fun e w'=>e = .returned (.tuple #[vI s.size,.nilIface])∧Q3 T b own (l++s.data.toList) w w':=by
 obtain⟨i0,hi,hz0,hz1,hz2⟩:=info_parts Ma;have hne:=h.own_ne hT;have hol:=h.own_lt;have hcell:Lib.byteCells (l++s.data.toList)=Lib.byteCells l++Lib.strCells s:=by rw[Kd,Lib.byteCells_append]
 have Hc:=Hz hcell;clear hcell;go_enter func106,ntmps106;go_wp2_with (go_at_call 104;refine(Io T hT b own l _ h).mono ?_);rintro e w1 ⟨rfl,⟨v,hbk,hown,ho⟩,hf1⟩;have HO:=Hz ho;clear ho;have d0:w1.cell? ⟨b,0,none⟩=some (.pointer (some ⟨b,0,none⟩)):=by rw[Af hbk];rfl
 have d1:w1.cell? ⟨b,1,none⟩=some v:=by rw[Af hbk];rfl
 go_wp2_with (at_builtin;refine Fs _ rfl _ _ 82 9 rfl 5 i0 underlying82 underlying9 hi hz0 hz1 hz2 _ _ _ rfl hown s rfl ?c3 ?c4 ?_)
 case c3=>unfold maxLen;omega
 case c4=>omega
 intro v' w2 hown' hgrow hfp;have hlt:b<w1.heap.size:=Aa hbk
 have hb2:w2.heap[b]?=some (.cells #[.pointer (some ⟨b,0,none⟩),v] T (0,0)):=by
  rw[hgrow.block b hlt (fun e=>hne (by rw[← HO.out,← e]))];exact hbk
 have e0:w2.cell? ⟨b,0,none⟩=some (.pointer (some ⟨b,0,none⟩)):=by rw[Af hb2];rfl
 have e1:w2.cell? ⟨b,1,none⟩=some v:=by rw[Af hb2];rfl
 have f1:w2.frozen? ⟨b,1,none⟩=false:=Ap hb2 1
 obtain⟨ao,n',cap,hv'⟩:∃ ao n' cap,v' = .slice ao n' cap:=by
  rcases hown'.2 with⟨hv,_⟩| ⟨g,cap,cur,hv,_⟩
  ·exact⟨_,_,_,hv⟩
  ·exact⟨_,_,_,hv⟩
 subst hv'
 have hf2:Fr (b::own.toList) w w2:=by
  refine(hf1.mono (L':=b::own.toList) (fun x hx => .inl (by simp at hx;simp[hx]))).append hgrow ?_;intro g hg;rw[HO.out] at hg;exact .inl (by simp[hg])
 go_wp2
 go_ret2;have hown2:w2.ownsRow 0 5 1 (.slice ao n' cap) (l.length+s.size) (Lib.byteCells (l++s.data.toList)):=by rw[Hc.out];exact hown'
 have hgb:(Value.slice ao n' cap).ownBlock≠some b:=Lib.ownBlock_ne hown2 hb2 hT.2;refine⟨rfl,⟨(Value.slice ao n' cap).ownBlock,⟨_,.slice ao n' cap,.inr rfl,by simp[World.setCell,Array.getElem?_modify,hb2],?_,rfl⟩,?_⟩,?_⟩
 ·have:(l++s.data.toList).length=l.length+s.size:=by rw[La'];rfl
  rw[this];exact hown2.kept (row:=some b) ⟨rfl,rfl,rfl,by simp[World.setCell],fun k _ hk=>Below.heap_setCell _ _ _ _ (fun e=>hk (by simp[e]))⟩ (Or.inr hgb)
 ·intro g' hg';rcases hfp g' hg' with h1|h1
  ·exact .inl (by rw[← HO.out,h1])
  ·exact .inr (Nat.le_trans hf1.size h1)
 ·exact hf2.setCell (p:=⟨b,1,none⟩) (.inl (by simp)) _
theorem Iw(b:Nat)(own:Option Nat)(l:LB)(s:ByteArray)(w:World)(h:Bld b own l w)(hlen:l.length+s.size≤140737488355328):
  Calls prog 106 #[.pointer (some ⟨b,0,none⟩),.string s] w fun e w'=>e = .returned (.tuple #[vI s.size,.nilIface])∧Q2 b own (l++s.data.toList) w w':=Kb _ Gt b own l s w h hlen
theorem Nk(B b:Nat)(own:Option Nat)(l:LB)(w:World)(h:Bld b own l w)(hB:B≤b)(hO:∀ g,own=some g→B≤g):
  Calls prog 78 #[.pointer (some ⟨b,0,none⟩)] w fun e w'=>e = .returned (vS l)∧Below B w w':=by
 have hlt:=h.lt;have hne:=h.own_ne Gt;refine Tryz.Builder_String_any B b l w ?_ (by omega);obtain⟨p,v,hp,hb,hown,rfl⟩:=h
 have hown':w.ownsRow B 5 1 v (Lib.byteCells l).length (Lib.byteCells l):=by
  rw[Lib.byteCells_length];refine⟨hown.1,?_⟩
  rcases hown.2 with hn|⟨g,cap,cur,hv,_,Di⟩
  ·exact .inl hn
  ·exact .inr ⟨g,cap,cur,hv,hO g (by rw[hv];rfl),Di⟩
 rcases hp with rfl|rfl
 ·exact .inl ⟨hB,v,hb,hown',hne⟩
 ·exact .inr ⟨hB,v,hb,hown',hne⟩
theorem Im(s:ByteArray)(hs:s.size≤9223372036854775807)(w:World):
  Calls prog 74 #[.string s,.string ⟨#[48,49,50,51,52,53,54,55,56,57]⟩] w fun e w'=>e = .returned (.string ⟨(Lib.trimS s.data.toList Gu).toArray⟩)∧Fr [] w w' :=
 (Any.strings_Trim_laid Tryz.lays160 (by kernel_rfl) s ⟨#[48,49,50,51,52,53,54,55,56,57]⟩ w hs (by decide) (ascii_of_all (by decide))).mono fun _ _ ⟨he,hb⟩=>⟨he,Fr.of_below hb⟩
theorem Kh(s:ByteArray)(h:0<s.size):s.data.toList.head?=some s[0]:=by
 rw[List.head?_eq_getElem?,Lg' (by simpa using h)];rfl
theorem Mn{s:ByteArray}(h:s.toList=[]∨(∃ h0:0<s.size,((s[0].toNat:Nat):Int)=48∧1<(s.size:Int))∨¬ s.data.toList.all Bz=true):Ci s.data.toList=0∧De s.data.toList=5:=by
 have hn:Dz s.data.toList=false:=by
  unfold Dz;rcases h with h|⟨h0,h48,h1⟩| h
  ·rw[Lib.toList_data] at h;simp[h]
  ·have hh:=Kh s h0
   have e48:s[0]=48:=by
    have:s[0].toNat=(48:UInt8).toNat:=by
     have:(48:UInt8).toNat=48:=rfl;omega
    exact UInt8.toNat_inj.1 this
   have hl:1<s.data.toList.length:=by have:=Ar s;omega
   rw[hh,e48];simp only[beq_self_eq_true,Bool.true_and,decide_eq_true hl,Bool.or_true,Bool.true_or,Bool.not_true]
  ·have:s.data.toList.all Bz=false:=by simpa using h
   rw[this];simp only[Bool.not_false,Bool.or_true,Bool.not_true]
 unfold Ci De;rw[hn];simp
theorem N0{s:ByteArray}(h:¬ s.toList=[])(h1:∀ h0:0<s.size,((s[0].toNat:Nat):Int)=48→(s.size:Int)≤1)(hd:s.data.toList.all Bz=true):Dz s.data.toList=true:=by
 rw[Lib.toList_data] at h
 have h0:0<s.size:=by
  rcases Nat.eq_zero_or_pos s.size with h' | h'
  ·exact absurd (List.eq_nil_of_length_eq_zero (by rw[Ar];exact h')) h
  ·exact h'
 unfold Dz;rw[hd,Kh s h0];have hne:s.data.toList.isEmpty=false:=by simpa using h
 rw[hne]
 have:(some s[0]==some (48:UInt8)&&decide (1<s.data.toList.length))=false:=by
  by_cases e:s[0]=48
  ·have:=h1 h0 (by rw[e];rfl);have h2:¬ 1<s.data.toList.length:=by rw[Ar];omega
   rw[decide_eq_false h2,Bool.and_false]
  ·have:(some s[0]==some (48:UInt8))=false:=by simpa using e
   rw[this,Bool.false_and]
 rw[this];rfl
theorem Kc{l:LB}(h:Dz l=true):Lib.parseIntB 64 l=if Dl 0 l≤9223372036854775807 then .ok (Dl 0 l:Int)else .range:=by
 unfold Dz at h;simp only[Bool.not_eq_true',Bool.or_eq_false_iff] at h;obtain⟨⟨hne,_⟩,hd⟩:=h;have hd':l.all Bz=true:=by simpa using hd
 cases l with
 | nil=>simp at hne
 | cons c r =>
  have hc:Bz c=true:=by
   simp only[List.all_cons,Ba'] at hd';exact hd'.1
  have hc':=(Fo c).1 hc;unfold Lib.parseIntB;have e1:¬ (c.toNat=43∨c.toNat=45):=by omega
  have e2:¬ c.toNat=45:=by omega
  simp only[if_neg e1];have hp:Lib.parseUintB 64 (c::r)=Lib.parseUintM (2 ^ 64-1) 0 (c::r):=by unfold Lib.parseUintB;rw[if_neg (by simp)]
  rw[hp,Gk _ (by decide) _ 0 (Nat.zero_le _) hd'];generalize Dl 0 (c::r)=v;by_cases hv:v≤2 ^ 64-1
  ·rw[if_pos hv];by_cases hw:v≤9223372036854775807
   ·rw[if_pos hw];show(if ¬ c.toNat=45∧2 ^ (64-1)≤v then Lib.NumEnd.range else if c.toNat=45∧2 ^ (64-1)<v then Lib.NumEnd.range else Lib.NumEnd.ok (if c.toNat=45 then -(v:Int)else v))=_;rw[if_neg (by omega),if_neg (by omega),if_neg e2]
   ·rw[if_neg hw];show(if ¬ c.toNat=45∧2 ^ (64-1)≤v then Lib.NumEnd.range else if c.toNat=45∧2 ^ (64-1)<v then Lib.NumEnd.range else Lib.NumEnd.ok (if c.toNat=45 then -(v:Int)else v))=_;rw[if_pos (by omega)]
  ·rw[if_neg hv,if_neg (by omega)]
theorem read_ok{l:LB}(h:Dz l=true)(hv:Dl 0 l≤4611686018427387903):Ci l=Dl 0 l∧De l=0:=by
 unfold Ci De;rw[if_pos ⟨h,hv⟩,if_pos h,if_pos hv];exact⟨rfl,rfl⟩
theorem Js{l:LB}(h:Dz l=true)(hv:¬ Dl 0 l≤4611686018427387903):Ci l=0∧De l=2:=by
 unfold Ci De;rw[if_neg (fun h'=>hv h'.2),if_pos h,if_neg hv];exact⟨rfl,rfl⟩
theorem Qz(s:ByteArray)(hs:s.size≤281474976710656)(w:World)
  (hn:s.toList=[]∨(∃ h0:0<s.size,((s[0].toNat:Nat):Int)=48∧1<(s.size:Int))∨¬ s.data.toList.all Bz=true):
  Calls prog 46 #[.string s] w fun e w'=>e = .returned (.tuple #[vI 0,vI 5])∧Fr [] w w':=by
 have HT:=Hz (Im s (by omega) w);have hiff:=H3 s.data.toList
 generalize Lib.trimS s.data.toList Gu=t at *
 by_cases he:s.toList=[]
 ·clear hiff hn;go_enter func46,ntmps46;go_wp2_with fail;go_ret2;exact⟨rfl,Fr.refl _ _⟩
 ·have h0:0<s.size:=by
   rcases Nat.eq_zero_or_pos s.size with h' | h'
   ·exact absurd (by rw[Lib.toList_data];exact List.eq_nil_of_length_eq_zero (by rw[Ar];exact h')) he
   ·exact h'
  have b1:s.toList.isEmpty=false:=by simpa using he
  by_cases z1:((s[0].toNat:Nat):Int)=48
  ·have c1:(((s[0].toNat:Nat):Int)==48)=true:=by simpa using z1
   by_cases z2:1<(s.size:Int)
   ·have c2:decide (1<(s.size:Int))=true:=decide_eq_true z2;clear hiff hn he z1 z2;go_enter func46,ntmps46;go_wp2_with fail;go_ret2;exact⟨rfl,Fr.refl _ _⟩
   ·have c2:decide (1<(s.size:Int))=false:=decide_eq_false z2
    have htne:t≠[]:=by
     intro h;rcases hn with hn|⟨_,hn⟩| hn
     ·exact he hn
     ·exact z2 hn.2
     ·exact hn (hiff.1 h)
    have c3:t.isEmpty=false:=by simpa using htne
    clear hiff hn he z1 z2 htne;go_enter func46,ntmps46;go_wp2_with fail;refine HT.out.mono ?_;rintro e w1 ⟨rfl,hf⟩;go_wp2_with fail;go_ret2;exact⟨rfl,hf⟩
  ·have c1:(((s[0].toNat:Nat):Int)==48)=false:=by simpa using z1
   have htne:t≠[]:=by
    intro h;rcases hn with hn|⟨_,hn⟩| hn
    ·exact he hn
    ·exact z1 hn.1
    ·exact hn (hiff.1 h)
   have c3:t.isEmpty=false:=by simpa using htne
   clear hiff hn he z1 htne;go_enter func46,ntmps46;go_wp2_with fail;refine HT.out.mono ?_;rintro e w1 ⟨rfl,hf⟩;go_wp2_with fail;go_ret2;exact⟨rfl,hf⟩
theorem G4{w w':World}{T:TypeId}(h:w'=w∨∃ t,w'=Lib.bytesWorld w T t):Fr [] w w':=by
 rcases h with rfl|⟨t,rfl⟩
 ·exact Fr.refl _ _
 ·exact Fr.of_below (Lib.bytesWorld_below _ _ _)
theorem Q0(s:ByteArray)(hs:s.size≤281474976710656)(w:World)(hE:Env w)(he:¬ s.toList=[])
  (h1:∀ h0:0<s.size,((s[0].toNat:Nat):Int)=48→(s.size:Int)≤1) (hd:s.data.toList.all Bz=true):
  Calls prog 46 #[.string s] w fun e w'=>e = .returned (.tuple #[vI (Ci s.data.toList),vI (De s.data.toList)])∧Fr [] w w':=by
 have hnum:=N0 he h1 hd;have hp:=Kc hnum;have HT:=Hz (Im s (by omega) w);rw[(H3 s.data.toList).2 hd] at HT
 have h0:0<s.size:=by
  rcases Nat.eq_zero_or_pos s.size with h' | h'
  ·exact absurd (by rw[Lib.toList_data];exact List.eq_nil_of_length_eq_zero (by rw[Ar];exact h')) he
  ·exact h'
 have b1:s.toList.isEmpty=false:=by simpa using he
 have key:(((s[0].toNat:Nat):Int)==48)=false∨((((s[0].toNat:Nat):Int)==48)=true∧decide (1<(s.size:Int))=false):=by
  by_cases z1:((s[0].toNat:Nat):Int)=48
  ·exact .inr ⟨by simpa using z1,decide_eq_false (by have:=h1 h0 z1;omega)⟩
  ·exact .inl (by simpa using z1)
 clear h1 hd he;by_cases hv:Dl 0 s.data.toList≤9223372036854775807
 ·rw[if_pos hv] at hp;have HP:=Hz (fun W:World=>Hz (Tryz.strconv_ParseInt_10_at64_ok s (by omega) _ hp W));have hle:(0:Int)≤(Dl 0 s.data.toList:Int):=by omega
  by_cases hm:Dl 0 s.data.toList≤4611686018427387903
  ·obtain⟨r1,r2⟩:=read_ok hnum hm;rw[r1,r2];have c4:decide (4611686018427387903<(Dl 0 s.data.toList:Int))=false:=decide_eq_false (by omega)
   generalize ((Dl 0 s.data.toList:Nat):Int)=v at *
   clear hp hnum hv hm r1 r2 hle
   rcases key with c1|⟨c1,c2⟩
   all_goals
    go_enter func46,ntmps46;go_wp2_with fail;refine HT.out.mono ?_;rintro e w1 ⟨rfl,hf⟩;go_wp2_with fail;refine(HP.out _).out.mono ?_;rintro e w2 ⟨rfl,hw⟩;have hf2:=G4 hw;clear hw;go_wp2_with fail;go_ret2;exact⟨rfl,hf.trans hf2⟩
  ·obtain⟨r1,r2⟩:=Js hnum hm;rw[r1,r2];have c4:decide (4611686018427387903<(Dl 0 s.data.toList:Int))=true:=decide_eq_true (by omega)
   generalize ((Dl 0 s.data.toList:Nat):Int)=v at *
   clear hp hnum hv hm r1 r2 hle
   rcases key with c1|⟨c1,c2⟩
   all_goals
    go_enter func46,ntmps46;go_wp2_with fail;refine HT.out.mono ?_;rintro e w1 ⟨rfl,hf⟩;go_wp2_with fail;refine(HP.out _).out.mono ?_;rintro e w2 ⟨rfl,hw⟩;have hf2:=G4 hw;clear hw;go_wp2_with fail;go_ret2;exact⟨rfl,hf.trans hf2⟩
 ·rw[if_neg hv] at hp;have HP:=Hz (fun(W:World) (hW:Env W)=>Hz (Tryz.strconv_ParseInt_10_at64_range_var s hs hp hW.rng.choose hW.rng.choose_spec.choose W hW.rng.choose_spec.choose_spec));obtain⟨r1,r2⟩:=Js hnum (by omega);rw[r1,r2];clear hp hnum hv r1 r2
  rcases key with c1|⟨c1,c2⟩
  all_goals
   go_enter func46,ntmps46;go_wp2_with fail;refine HT.out.mono ?_;rintro e w1 ⟨rfl,hf⟩;go_wp2_with fail;refine(HP.out _ (hE.fr hf)).out.mono ?_;rintro e w2 ⟨N,rfl,_,_,hw⟩;have hf2:=Fr.of_below hw;clear hw;go_wp2_with fail;go_ret2;exact⟨rfl,hf.trans hf2⟩
theorem Qy(s:ByteArray)(hs:s.size≤281474976710656)(w:World)(hE:Env w):
  Calls prog 46 #[.string s] w fun e w'=>e = .returned (.tuple #[vI (Ci s.data.toList),vI (De s.data.toList)])∧Fr [] w w':=by
 by_cases hn:s.toList=[]∨(∃ h0:0<s.size,((s[0].toNat:Nat):Int)=48∧1<(s.size:Int))∨¬ s.data.toList.all Bz=true
 ·obtain⟨r1,r2⟩:=Mn hn;rw[r1,r2];exact Qz s hs w hn
 ·simp only[not_or] at hn;refine Q0 s hs w hE hn.1 (fun h0 h48=>?_) (Classical.not_not.1 hn.2.2);rcases Int.lt_or_le 1 (s.size:Int)with h|h
  ·exact absurd ⟨h0,h48,h⟩ hn.2.1
  ·exact h
theorem Qs(s:ByteArray)(k:Nat)(h:k<s.size):s.data.toList.take (k+1)=s.data.toList.take k++[s[k]]:=by
 rw[List.take_succ_eq_append_getElem (by simpa using h)];rfl
theorem quo_str(c:UInt8):quo c=if ((c.toNat:Nat):Int)=34 then [92,34] else if ((c.toNat:Nat):Int)=92 then [92,92] else if ((c.toNat:Nat):Int)=10 then [92,110]
  else if 32≤((c.toNat:Nat):Int)∧((c.toNat:Nat):Int)≤126 then [c] else [92,120,I0 (c.toNat / 16),I0 (c.toNat % 16)]:=by
 have e:∀ k:UInt8,(c=k)↔((c.toNat:Nat):Int)=((k.toNat:Nat):Int):=fun k=>⟨fun h=>by rw[h],fun h=>UInt8.toNat_inj.1 (by omega)⟩
 have e1:=e 34;have e2:=e 92;have e3:=e 10;have n1:(((34:UInt8).toNat:Nat):Int)=34:=rfl;have n2:(((92:UInt8).toNat:Nat):Int)=92:=rfl;have n3:(((10:UInt8).toNat:Nat):Int)=10:=rfl;rw[n1] at e1;rw[n2] at e2;rw[n3] at e3;unfold quo;simp only[e1,e2,e3];have e4:(32≤c.toNat∧c.toNat≤126)↔(32≤((c.toNat:Nat):Int)∧((c.toNat:Nat):Int)≤126):=by omega
 simp only[e4]
theorem hex_at(k:Nat)(h:k<16):Nv[k]?=some (I0 k):=by
 unfold I0;rw[List.getD_eq_getElem?_getD];have:k<Nv.length:=h;rw[Lg' this];rfl
theorem Li{P:Program}{T:TypeId}(hT:P.underlying T=some .string)(s:ByteArray)(K:IntKind)(i:Int)(k:Nat)(hi:i=k)(b:UInt8)(hb:s.data.toList[k]?=some b)(W:World):
  (Instr.index T (.string s) (.int K i)).run P W = .ok (.int .u8 (b.toNat:Int)) W:=by
 subst hi
 have h0:s[k]?=some b:=by
  have hk:k<s.data.toList.length:=(List.getElem?_eq_some_iff.1 hb).1;have hk':k<s.size:=by rw[Ar] at hk;exact hk
  rw[getElem?_pos s k hk'];have:=(List.getElem?_eq_some_iff.1 hb).2;rw[← this];rfl
 simp[Instr.index,run_underlying hT,asIntOf,h0]
theorem Ea{P:Program}{T:TypeId}(hT:P.underlying T=some .string)(K:IntKind)(i:Int)(k:Nat)(hi:i=k)(hk:k<16)(W:World):
  (Instr.index T (.string ⟨#[48,49,50,51,52,53,54,55,56,57,97,98,99,100,101,102]⟩) (.int K i)).run P W = .ok (.int .u8 ((I0 k).toNat:Int)) W :=
 Li hT _ K i k hi (I0 k) (hex_at k hk) W
theorem Mt(l:LB)(c:UInt8):Co (l++[c])=Co l++quo c:=by simp[Co]
theorem Mu(s:ByteArray)(k:Nat)(h:k<s.size):Co (s.data.toList.take (k+1))=Co (s.data.toList.take k)++quo s[k]:=by rw[Qs s k h,Mt]
theorem I3(s:ByteArray)(k:Nat)(h:k≤s.size):(Co (s.data.toList.take k)).length≤4 * s.size:=by
 have h1:=Jr (s.data.toList.take k);have h2:=List.length_take_le k s.data.toList;omega
def Nj(B:Nat)(v:Value)(l:LB)(w:World):Prop:=w.ownsRow 0 5 1 v l.length (Lib.byteCells l)∧∀ g,v.ownBlock=some g→B≤g
theorem Nj.fr{B:Nat}{v:Value}{l:LB}{w w':World}(h:Nj B v l w)(hf:Fr [] w w'):Nj B v l w':=⟨Hj h.1 hf (fun _ _ h=>by cases h),h.2⟩
theorem Nj.lit(w:World)(c:UInt8):Nj w.heap.size (.slice (some ⟨w.heap.size,0,none⟩) 1 1) [c] (w.alloc (.cells #[.int .u8 (c.toNat:Int)] 5)):=
 ⟨World.ownsRow_lit w #[.int .u8 (c.toNat:Int)] 1 (Nat.zero_le _) (by decide) rfl,fun g hg=>by simp[Value.ownBlock] at hg;omega⟩
def BI(w:World)(b:Nat)(r:Option (Nat×Obj))(l:LB)(wr:World):Prop :=
 ∃ own,Bld b own l wr∧(∀ g,own=some g→w.heap.size≤g)∧w.heap.size≤b∧Fr [] w wr∧∀ k o,r=some (k,o)→wr.heap[k]?=some o∧k≠b∧own≠some k
theorem BI.start(w:World):BI w w.heap.size none [] (w.alloc (.cells #[.pointer none,vZ] 101)):=
 ⟨none,Bld.fresh w,(fun _ h=>by cases h),Nr' _,(Fr.refl _ _).alloc _,(fun _ _ h=>by cases h)⟩
theorem BI.beside{w:World}{b:Nat}{l:LB}{wr w':World}(h:BI w b none l wr)(hf:Fr [] wr w'){k:Nat}{o:Obj}(hk:wr.heap.size≤k)(ho:w'.heap[k]?=some o):BI w b (some (k,o)) l w':=by
 obtain⟨own,hb,hg,hbw,hfr,_⟩:=h;refine⟨own,hb.keep hf (fun h=>by cases h) (fun _ _ h=>by cases h),hg,hbw,hfr.trans hf,?_⟩;intro k' o' e;cases e;have:=hb.lt;exact⟨ho,by omega,fun e=>by have:=hb.own_lt k e;omega⟩
theorem BI.at{w:World}{b k:Nat}{o:Obj}{l:LB}{wr:World}(h:BI w b (some (k,o)) l wr):wr.heap[k]?=some o:=by
 obtain⟨own,_,_,_,_,hr⟩:=h;exact(hr k o rfl).1
theorem BI.frame{w:World}{b:Nat}{r:Option (Nat×Obj)}{l:LB}{wr:World}(h:BI w b r l wr):Fr [] w wr:=by
 obtain⟨own,_,_,_,hf,_⟩:=h;exact hf
theorem BI.fr{w:World}{b:Nat}{r:Option (Nat×Obj)}{l:LB}{wr w':World}(h:BI w b r l wr)(hf:Fr [] wr w'):BI w b r l w':=by
 obtain⟨own,hb,hg,hbw,hfr,hr⟩:=h;refine⟨own,hb.keep hf (fun h=>by cases h) (fun _ _ h=>by cases h),hg,hbw,hfr.trans hf,fun k o e=>?_⟩;obtain⟨h1,h2⟩:=hr k o e;exact⟨hf.keep h1 (fun h=>by cases h),h2⟩
theorem BI.wrote{w:World}{b:Nat}{r:Option (Nat×Obj)}{l m:LB}{wr w':World}{own:Option Nat}(_hb:Bld b own l wr)(hg:∀ g,own=some g→w.heap.size≤g)(hbw:w.heap.size≤b)(hfr:Fr [] w wr)
  (hr:∀ k o,r=some (k,o)→wr.heap[k]?=some o∧k≠b∧own≠some k) (hw:Q2 b own m wr w'):BI w b r m w':=by
 obtain⟨⟨own',hb',hfp⟩,hf⟩:=hw;refine⟨own',hb',?_,hbw,hfr.step hf ?_,?_⟩
 ·intro g e;rcases hfp g e with h|h
  ·exact hg g h
  ·have:=hfr.size;omega
 ·intro x hx;simp only[List.mem_cons,Option.mem_toList] at hx;rcases hx with rfl|hx
  ·exact .inr hbw
  ·exact .inr (hg x hx)
 ·intro k o e;obtain⟨h1,h2,h3⟩:=hr k o e;refine⟨hf.keep h1 ?_,h2,?_⟩
  ·intro hx;simp only[List.mem_cons,Option.mem_toList] at hx;rcases hx with hx|hx
   ·exact h2 hx
   ·exact h3 hx
  ·intro e';rcases hfp k e' with h|h
   ·exact h3 h
   ·have:=Aa h1;omega
theorem Da(c:Int)(w:World)(b:Nat)(r:Option (Nat×Obj))(l:LB)(wr:World)(c0:0≤c)(c1:c≤255)(h:BI w b r l wr)(hlen:l.length+1≤140737488355328):
  Calls prog 76 #[.pointer (some ⟨b,0,none⟩),.int .u8 c] wr fun e w'=>e = .returned .nilIface∧BI w b r (l++[UInt8.ofNat c.toNat]) w':=by
 obtain⟨own,hb,hg,hbw,hfr,hr⟩:=h
 exact(Ka b own l c c0 c1 wr hb hlen).mono fun _ _ ⟨he,hw⟩=>⟨he,BI.wrote hb hg hbw hfr hr hw⟩
theorem Ou(s:ByteArray)(w:World)(b:Nat)(r:Option (Nat×Obj))(l:LB)(wr:World)(h:BI w b r l wr)(hlen:l.length+s.size≤140737488355328):
  Calls prog 106 #[.pointer (some ⟨b,0,none⟩),.string s] wr fun e w'=>e = .returned (.tuple #[vI s.size,.nilIface])∧BI w b r (l++s.data.toList) w':=by
 obtain⟨own,hb,hg,hbw,hfr,hr⟩:=h
 exact(Iw b own l s wr hb hlen).mono fun _ _ ⟨he,hw⟩=>⟨he,BI.wrote hb hg hbw hfr hr hw⟩
theorem Ke(w:World)(b:Nat)(r:Option (Nat×Obj))(l:LB)(wr:World)(h:BI w b r l wr):
  Calls prog 78 #[.pointer (some ⟨b,0,none⟩)] wr fun e w'=>e = .returned (vS l)∧Fr [] w w':=by
 obtain⟨own,hb,hg,hbw,hfr,hr⟩:=h
 exact(Nk w.heap.size b own l wr hb hbw hg).mono fun _ _ ⟨he,hw⟩=>⟨he,⟨hw.os.trans hfr.os,hw.tape.trans hfr.tape,hw.output.trans hfr.output,Nat.le_trans hfr.size hw.size,fun k hk _=>(hw.block k hk).trans (hfr.block k hk (fun h=>by cases h))⟩⟩
theorem and15(c:UInt8):bits .and .u8 ((c.toNat:Nat):Int) 15=((c.toNat % 16:Nat):Int):=by
 have h:=c.toNat_lt;rw[show(15:Int)=((15:Nat):Int)from rfl,u8_and_nat c.toNat 15 (by omega) (by omega)];have:c.toNat &&& 15=c.toNat % 16:=Nat.and_two_pow_sub_one_eq_mod c.toNat 4;rw[this]
theorem Pg(s:ByteArray)(hs:s.size≤16777216)(w:World):
  Calls prog 79 #[.string s] w fun e w'=>e = .returned (.string ⟨(Dk s.data.toList).toArray⟩)∧Fr [] w w':=by
 have hcv:=fun W=>Lib.run_convert_string_bytes (P:=prog) W 9 82 5 s underlying9 underlying82 underlying5
 go_enter func79,ntmps79;go_wp2_with fail;refine(Da 34 w w.heap.size none [] _ (by decide) (by decide) (BI.start w) (by decide)).mono ?_;rintro e w1 ⟨rfl,h1⟩;go_wp2_with fail
 have h2:BI w w.heap.size (some (w1.heap.size,.cells (Lib.bytesCells w1 5 s) 5 ((Lib.bytesCells w1 5 s).size,(Lib.bytesCells w1 5 s).size+1))) [34] (Lib.bytesWorld w1 5 s):=
  h1.beside (Fr.of_below (Lib.bytesWorld_below _ _ _)) (Nr' _) (Lib.bytesWorld_at_new w1 5 s)
 have hcell:∀ W:World,W.heap[w1.heap.size]?=some (.cells (Lib.bytesCells w1 5 s) 5 ((Lib.bytesCells w1 5 s).size,(Lib.bytesCells w1 5 s).size+1))→∀ k (hk:k<s.size),W.cell? ⟨w1.heap.size,k,none⟩=some (.int .u8 ((s[k].toNat:Nat):Int)):=by
  intro W hW k hk;have h3:=Lib.bytesWorld_cell w1 5 s k hk;rw[Af (Lib.bytesWorld_at_new w1 5 s)] at h3;rw[Af hW,h3,List.getD_eq_getElem?_getD,Lg' (by simpa using hk)];rfl
 have HC:=Hz hcell;clear hcell h1 hcv
 generalize Obj.cells (Lib.bytesCells w1 5 s) 5 ((Lib.bytesCells w1 5 s).size,(Lib.bytesCells w1 5 s).size+1)=O at *
 generalize Lib.bytesWorld w1 5 s=w2 at *
 generalize w1.heap.size=R at *
 generalize w.heap.size=b at *
 go_loopw [10] (fun i wr=>∃ k:Nat,k≤s.size∧i=vI k∧BI w b (some (R,O)) (34::Co (s.data.toList.take k)) wr) (fun i _=>s.size-(intOf i).toNat)
 case atStart=>exact⟨0,Nat.zero_le _,rfl,h2⟩
 case round =>
  obtain⟨k,hk,rfl,hb⟩:=hrel;clear h2;have hql:=I3 s k hk;by_cases hlt:k<s.size
  ·have hq1:=Mu s k hlt;rw[quo_str] at hq1;have hcell:=HC.out wr hb.at k hlt;have cl:=s[k].toNat_lt;have c0:0≤((s[k].toNat:Nat):Int):=by omega
   have c1:((s[k].toNat:Nat):Int)≤255:=by omega
   have hbk:UInt8.ofNat s[k].toNat=s[k]:=UInt8.ofNat_toNat;have HB:=Hz hbk;by_cases e1:((s[k].toNat:Nat):Int)=34
   ·rw[if_pos e1] at hq1;have HQ:=Hz hq1;have HE:Hid (s[k]=34):=Hz (UInt8.toNat_inj.1 (by have h9:(34:UInt8).toNat=34:=rfl;omega));have b1:(((s[k].toNat:Nat):Int)==34)=true:=by simpa using e1
    clear hq1 e1 hbk cl;go_wp2_with fail;refine(Da 92 _ _ _ _ _ (by omega) (by omega) hb (by simp only[Lc'];omega)).mono ?_;rintro e x1 ⟨rfl,hb1⟩;go_wp2_with fail;refine(Da _ _ _ _ _ _ (by omega) (by omega) hb1 (by simp only[La',Lc',Ln'];omega)).mono ?_;rintro e x2 ⟨rfl,hb2⟩;go_wp2_with fail
    go_roundw
    case rel=>exact⟨k+1,by omega,by go_num,by rw[HQ.out];simpa [HE.out] using hb2⟩
    case measure=>simp[intOf];omega
   ·rw[if_neg e1] at hq1;have b1:(((s[k].toNat:Nat):Int)==34)=false:=by simpa using e1
    clear e1;by_cases e2:((s[k].toNat:Nat):Int)=92
    ·rw[if_pos e2] at hq1;have HQ:=Hz hq1;have HE:Hid (s[k]=92):=Hz (UInt8.toNat_inj.1 (by have h9:(92:UInt8).toNat=92:=rfl;omega));have b2:(((s[k].toNat:Nat):Int)==92)=true:=by simpa using e2
     clear hq1 e2 hbk cl;go_wp2_with fail;refine(Da 92 _ _ _ _ _ (by omega) (by omega) hb (by simp only[Lc'];omega)).mono ?_;rintro e x1 ⟨rfl,hb1⟩;go_wp2_with fail;refine(Da _ _ _ _ _ _ (by omega) (by omega) hb1 (by simp only[La',Lc',Ln'];omega)).mono ?_;rintro e x2 ⟨rfl,hb2⟩;go_wp2_with fail
     go_roundw
     case rel=>exact⟨k+1,by omega,by go_num,by rw[HQ.out];simpa [HE.out] using hb2⟩
     case measure=>simp[intOf];omega
    ·rw[if_neg e2] at hq1;have b2:(((s[k].toNat:Nat):Int)==92)=false:=by simpa using e2
     clear e2;by_cases e3:((s[k].toNat:Nat):Int)=10
     ·rw[if_pos e3] at hq1;have HQ:=Hz hq1;have b3:(((s[k].toNat:Nat):Int)==10)=true:=by simpa using e3
      clear hq1 e3 hbk cl;go_wp2_with fail;refine(Ou _ _ _ _ _ _ hb (by simp only[Lc',Ln',ByteArray.size_mk',List.size_toArray];omega)).mono ?_;rintro e x1 ⟨rfl,hb1⟩;go_wp2_with fail
      go_roundw
      case rel=>exact⟨k+1,by omega,by go_num,by rw[HQ.out];simpa using hb1⟩
      case measure=>simp[intOf];omega
     ·rw[if_neg e3] at hq1;have b3:(((s[k].toNat:Nat):Int)==10)=false:=by simpa using e3
      clear e3;by_cases e4:32≤((s[k].toNat:Nat):Int)∧((s[k].toNat:Nat):Int)≤126
      ·rw[if_pos e4] at hq1;have HQ:=Hz hq1;have b4:decide (32≤((s[k].toNat:Nat):Int))=true:=decide_eq_true e4.1;have b5:decide (((s[k].toNat:Nat):Int)≤126)=true:=decide_eq_true e4.2;clear hq1 e4 hbk cl;go_wp2_with fail;refine(Da _ _ _ _ _ _ (by omega) (by omega) hb (by simp only[Lc'];omega)).mono ?_;rintro e x1 ⟨rfl,hb1⟩;go_wp2_with fail
       go_roundw
       case rel=>exact⟨k+1,by omega,by go_num,by rw[HQ.out];simpa using hb1⟩
       case measure=>simp[intOf];omega
      ·rw[if_neg e4] at hq1;have HQ:=Hz hq1
       have key:decide (32≤((s[k].toNat:Nat):Int))=false∨(decide (32≤((s[k].toNat:Nat):Int))=true∧decide (((s[k].toNat:Nat):Int)≤126)=false):=by
        by_cases h5:32≤((s[k].toNat:Nat):Int)
        ·exact .inr ⟨decide_eq_true h5,decide_eq_false (fun h=>e4 ⟨h5,h⟩)⟩
        ·exact .inl (decide_eq_false h5)
       have i1:=fun W=>Ea (P:=prog) underlying9 .u8 (((s[k].toNat:Nat):Int)/ 16) (s[k].toNat / 16) (by omega) (by omega) W
       have i2:=fun W=>Ea (P:=prog) underlying9 .u8 (bits .and .u8 ((s[k].toNat:Nat):Int) 15) (s[k].toNat % 16) (and15 _) (by omega) W
       have i3:=fun W=>Ea (P:=prog) underlying9 .u8 (((s[k].toNat:Nat):Int) % 16) (s[k].toNat % 16) (by omega) (by omega) W
       have i4:=fun W=>Ea (P:=prog) underlying9 .u8 (((s[k].toNat % 16:Nat):Int)) (s[k].toNat % 16) rfl (by omega) W
       have u1:=(I0 (s[k].toNat / 16)).toNat_lt;have u2:=(I0 (s[k].toNat % 16)).toNat_lt;clear hq1 e4 hbk cl
       rcases key with b4|⟨b4,b5⟩
       all_goals
        go_wp2_with fail;refine(Ou _ _ _ _ _ _ hb (by simp only[Lc',Ln',ByteArray.size_mk',List.size_toArray];omega)).mono ?_;rintro e x1 ⟨rfl,hb1⟩;go_wp2_with fail;refine(Da _ _ _ _ _ _ (by omega) (by omega) hb1 (by simp only[La',Lc',Ln'];omega)).mono ?_;rintro e x2 ⟨rfl,hb2⟩;go_wp2_with fail;refine(Da _ _ _ _ _ _ (by omega) (by omega) hb2 (by simp only[La',Lc',Ln'];omega)).mono ?_;rintro e x3 ⟨rfl,hb3⟩;go_wp2_with fail
        go_roundw
        case rel=>exact⟨k+1,by omega,by go_num,by rw[HQ.out];simpa using hb3⟩
        case measure=>simp[intOf];omega
  ·have hts:s.data.toList.take k=s.data.toList:=List.take_of_length_le (by rw[Ar];omega);rw[hts] at hb hql;go_wp2_with fail;refine(Da 34 _ _ _ _ _ (by omega) (by omega) hb (by simp only[Lc'];omega)).mono ?_;rintro e x1 ⟨rfl,hb1⟩;go_wp2_with fail;refine(Ke _ _ _ _ _ hb1).mono ?_;rintro e x2 ⟨rfl,hf⟩;go_wp2_with fail;go_ret;exact⟨rfl,hf⟩
theorem Hh:∀ (n f g:Nat)(l:LB),l.length≤n→l.length≤f→l.length≤g→Cy f l=Cy g l:=by
 intro n
 induction n with
 | zero =>
  intro f g l hn _ _;have:l=[]:=List.eq_nil_of_length_eq_zero (by omega);subst this
  cases f <;> cases g <;> rfl
 | succ n ih =>
  intro f g l hn hf hg
  match l,hn,hf,hg with
  | [],_,_,_=>cases f <;> cases g <;> rfl
  | [x],_,hf,hg => 
   cases f with
   | zero=>simp at hf
   | succ f=>cases g with
    | zero=>simp at hg
    | succ g=>rfl
  | c::d::r,hn,hf,hg =>
   cases f with
   | zero=>simp at hf
   | succ f=>cases g with
    | zero=>simp at hg
    | succ g =>
     simp only[Lc'] at hn hf hg;have e1:=ih f g (d::r) (by simp only[Lc'];omega) (by simp only[Lc'];omega) (by simp only[Lc'];omega);have e2:=ih f g r (by omega) (by omega) (by omega);have e3:=ih f g (r.drop 2) (by simp only[List.length_drop];omega) (by simp only[List.length_drop];omega) (by simp only[List.length_drop];omega);simp only[Cy,e1,e2,e3]
def Di(s:ByteArray)(k:Nat):LB:=Cy s.size (s.data.toList.drop k)
theorem Cb(s:ByteArray)(k:Nat)(h:k<s.size):s.data.toList.drop k=s[k]::s.data.toList.drop (k+1):=by
 rw[List.drop_eq_getElem_cons (by simpa using h)];rfl
theorem Sm(s:ByteArray)(k:Nat)(h:s.size≤k+1):Di s k=[]:=by
 unfold Di;by_cases hk:k<s.size
 ·rw[Cb s k hk,List.drop_of_length_le (by rw[Ar];omega)];cases s.size <;> rfl
 ·rw[List.drop_of_length_le (by rw[Ar];omega)];cases s.size <;> rfl
theorem Cg(s:ByteArray)(k:Nat):(s.data.toList.drop k).length=s.size-k:=by rw[List.length_drop,Ar]
theorem Qf(s:ByteArray)(k:Nat)(h:k+1<s.size):Di s k=(if s[k]≠92 then s[k]::Di s (k+1)else if s[k+1]=110 then 10::Di s (k+2)
  else if s[k+1]=120∧k+3<s.size then Pu (s.data.toList.getD (k+2) 0) (s.data.toList.getD (k+3) 0)::Di s (k+4)else s[k+1]::Di s (k+2)):=by
 obtain⟨n,hn⟩:∃ n,s.size=n+1:=⟨s.size-1,by omega⟩
 have d1:=Cg s (k+1);have d2:=Cg s (k+2);have d4:=Cg s (k+4);have f1:Cy n (s.data.toList.drop (k+1))=Di s (k+1):=Hh _ _ _ _ (Nr' _) (by omega) (by omega);have f2:Cy n (s.data.toList.drop (k+2))=Di s (k+2):=Hh _ _ _ _ (Nr' _) (by omega) (by omega);have f4:Cy n (s.data.toList.drop (k+4))=Di s (k+4):=Hh _ _ _ _ (Nr' _) (by omega) (by omega);have e1:=Cb s (k+1) h;have hx:(s.data.toList.drop (k+2)).drop 2=s.data.toList.drop (k+4):=by rw[List.drop_drop]
 have g0:(s.data.toList.drop (k+2)).getD 0 0=s.data.toList.getD (k+2) 0:=by simp[List.getD_eq_getElem?_getD]
 have g1:(s.data.toList.drop (k+2)).getD 1 0=s.data.toList.getD (k+3) 0:=by simp[List.getD_eq_getElem?_getD]
 have hl:(2≤(s.data.toList.drop (k+2)).length)↔k+3<s.size:=by rw[d2];omega
 have e0:Di s k=Cy (n+1) (s[k]::s[k+1]::s.data.toList.drop (k+2)):=by
  have hgen:∀ m,m=n+1→Cy m (s.data.toList.drop k)=Cy (n+1) (s[k]::s[k+1]::s.data.toList.drop (k+2)):=by
   intro m hm;subst hm;rw[Cb s k (by omega),e1]
  exact hgen _ hn
 rw[e0,Cy,← e1,f1,f2,hx,f4,g0,g1];simp only[hl]
theorem Pv(c:UInt8):Lib.indexByte Nv c=Gb c:=by
 have h:∀ c:Fin 256,Lib.indexByte Nv (UInt8.ofNat c.val)=Gb (UInt8.ofNat c.val):=by decide +kernel
 have:=h ⟨c.toNat,c.toNat_lt⟩;simpa using this
theorem Oz(c:UInt8):-1≤Gb c∧Gb c≤15:=by
 have h:∀ c:Fin 256,-1≤Gb (UInt8.ofNat c.val)∧Gb (UInt8.ofNat c.val)≤15:=by decide +kernel
 have:=h ⟨c.toNat,c.toNat_lt⟩;simpa using this
theorem Nw(a b:UInt8):IntKind.u8.wrap (bits .or .i64 (IntKind.i64.wrap (Gb a * 16)) (bits .and .i64 (Gb b) 15))=(((Pu a b).toNat:Nat):Int):=by
 have h:∀ i j:Fin 17,IntKind.u8.wrap (bits .or .i64 (IntKind.i64.wrap (((i.val:Int)-1)* 16)) (bits .and .i64 ((j.val:Int)-1) 15))=(((UInt8.ofNat (((((i.val:Int)-1)* 16 % 256).toNat)||| ((((j.val:Int)-1) % 16).toNat))).toNat:Nat):Int):=by decide +kernel
 have ha:=Oz a;have hb:=Oz b;have h2:=h ⟨(Gb a+1).toNat,by omega⟩ ⟨(Gb b+1).toNat,by omega⟩;have e1:(((Gb a+1).toNat:Nat):Int)-1=Gb a:=by omega
 have e2:(((Gb b+1).toNat:Nat):Int)-1=Gb b:=by omega
 simp only[e1,e2] at h2;exact h2
theorem hexP_le(a b:UInt8):(((Pu a b).toNat:Nat):Int)≤255:=by have:=(Pu a b).toNat_lt;omega
theorem Rw(s:ByteArray)(k:Nat)(h:k<s.size):s.data.toList.getD k 0=s[k]:=by
 have h2:k<s.data.toList.length:=by rw[Ar];exact h
 rw[List.getD_eq_getElem?_getD,Lg' h2];rfl
theorem J8(c:UInt8)(w:World):Calls prog 77 #[.string ⟨#[48,49,50,51,52,53,54,55,56,57,97,98,99,100,101,102]⟩,.int .u8 ((c.toNat:Nat):Int)] w fun e w'=>e = .returned (vI (Gb c))∧w'=w:=by
 have h:=Tryz.strings_IndexByte ⟨#[48,49,50,51,52,53,54,55,56,57,97,98,99,100,101,102]⟩ ((c.toNat:Nat):Int) w
 have e:Lib.indexByte (⟨#[48,49,50,51,52,53,54,55,56,57,97,98,99,100,101,102]⟩:ByteArray).data.toList ((c.toNat:Nat):Int).toNat.toUInt8=Gb c:=by
  have h1:((c.toNat:Nat):Int).toNat.toUInt8=c:=by simp
  rw[h1];exact Pv c
 rw[e] at h;exact h
theorem Ly(s:ByteArray)(hs:s.size≤16777216)(w:World):
  Calls prog 48 #[.string s] w fun e w'=>e = .returned (.tuple #[.string ⟨(Ln s.data.toList).toArray⟩,vI (Lm s.data.toList)])∧Fr [] w w':=by
 go_enter func48,ntmps48;go_wp2_with fail;have hst:=BI.start w
 generalize (w.alloc (.cells #[.pointer none,vZ] 101))=w1 at *
 generalize hbw:w.heap.size=b at *
 clear hbw;have H0:Hid ([]++Di s 1=Di s 1):=Hz rfl
 go_loopw [5] (fun i wr=>∃ (k:Nat) (acc:LB),1≤k∧i=vI k∧BI w b none acc wr∧acc.length+1≤k∧k≤s.size+1∧Hid (acc++Di s k=Di s 1)) (fun i _=>s.size-(intOf i).toNat)
 case atStart=>exact⟨1,[],by omega,rfl,hst,by simp,by omega,H0⟩
 case round =>
  obtain⟨k,acc,hk,rfl,hb,hal,hks,HR⟩:=hrel;clear hst H0;by_cases hlt:k+1<s.size
  ·have d0:decide (((k:Nat):Int)<(s.size:Int)-1)=true:=decide_eq_true (by omega);have d1:(((k:Nat):Int)<(s.size:Int)-1):=by omega
   have hr1:=Qf s k hlt;have hbk:UInt8.ofNat s[k].toNat=s[k]:=UInt8.ofNat_toNat;have HB:=Hz hbk;have cl:=s[k].toNat_lt;have c0:0≤((s[k].toNat:Nat):Int):=by omega
   have c1:((s[k].toNat:Nat):Int)≤255:=by omega
   by_cases e1:s[k]=92
   ·rw[if_neg (by simpa using e1)] at hr1;have b1:(((s[k].toNat:Nat):Int)==92)=true:=by rw[e1];rfl
    have cl:=s[k+1].toNat_lt;have g0:0≤((s[k+1].toNat:Nat):Int):=by omega
    have g1:((s[k+1].toNat:Nat):Int)≤255:=by omega
    have hb2:UInt8.ofNat s[k+1].toNat=s[k+1]:=UInt8.ofNat_toNat;have HB2:=Hz hb2;clear c0 c1 hbk;by_cases e2:s[k+1]=110
    ·rw[if_pos e2] at hr1;have b2:(((s[k+1].toNat:Nat):Int)==110)=true:=by rw[e2];rfl
     have HQ:=Hz hr1;clear hr1 hb2 cl e2 e1;go_wp2_with fail;refine(Da _ _ _ _ _ _ (by omega) (by omega) hb (by omega)).mono ?_;rintro e x1 ⟨rfl,hb1⟩;go_wp2_with fail
     go_roundw
     case rel=>exact⟨k+2,_,by omega,by go_num,hb1,by simp;omega,by omega,Hz (by rw[← HR.out,HQ.out];simp)⟩
     case measure=>simp[intOf];omega
    ·rw[if_neg e2] at hr1
     have b2:(((s[k+1].toNat:Nat):Int)==110)=false:=by
      rw[bN];intro h;apply e2;apply UInt8.toNat_inj.1;have h9:(110:UInt8).toNat=110:=rfl;omega
     by_cases e3:s[k+1]=120
     ·have b3:((s[k+1].toNat:Nat):Int)=120:=by rw[e3];rfl
      by_cases e4:k+3<s.size
      ·rw[if_pos ⟨e3,e4⟩] at hr1;have HQ:=Hz hr1;have b4:((k:Nat):Int)+1+2<(s.size:Int):=by omega
       obtain⟨k2,hk2⟩:∃ m:Nat,m=k+2:=⟨_,rfl⟩
       obtain⟨k3,hk3⟩:∃ m:Nat,m=k+3:=⟨_,rfl⟩
       have v2:IntKind.i64.wrap (((k:Nat):Int)+1+1)=(k2:Int):=by rw[IntKind.wrap_i64];omega
       have v3:IntKind.i64.wrap (((k:Nat):Int)+1+2)=(k3:Int):=by rw[IntKind.wrap_i64];omega
       have q2:0≤((k2:Nat):Int)∧((k2:Nat):Int)<(s.size:Int):=by omega
       have q3:0≤((k3:Nat):Int)∧((k3:Nat):Int)<(s.size:Int):=by omega
       clear hr1 hb2 cl e2 e1 e3;go_wp2_with fail
       go_region_with (first|(go_at_call 77;refine(J8 _ _).mono ?_;rintro e w' ⟨rfl,rfl⟩)| (go_at_call 76;simp only[Nw];refine(Da _ _ _ _ _ _ (Int.natCast_nonneg _) (hexP_le _ _) (hb.fr ((Fr.refl [] _).drew)) (by omega)).mono ?_;rintro e w' ⟨rfl,hb1⟩))
       all_goals
        go_wp2_with fail
        go_roundw
        case rel =>
         refine⟨k+4,_,by omega,by go_num,hb1,by simp;omega,by omega,Hz ?_⟩;rw[← HR.out,HQ.out,Rw s (k+2) (by omega),Rw s (k+3) (by omega)];have p2:(((k:Nat):Int)+2).toNat=k+2:=by omega
         have p3:(((k:Nat):Int)+3).toNat=k+3:=by omega
         simp[p2,p3,UInt8.ofNat_toNat]
        case measure=>simp[intOf];omega
      ·rw[if_neg (fun h=>e4 h.2)] at hr1;have HQ:=Hz hr1;have HE:=Hz e3;have b4:¬ ((k:Nat):Int)+1+2<(s.size:Int):=by omega
       clear hr1 hb2 cl e2 e1 e3;go_wp2_with fail;refine(Da _ _ _ _ _ _ (by omega) (by omega) hb (by omega)).mono ?_;rintro e x1 ⟨rfl,hb1⟩;go_wp2_with fail
       go_roundw
       case rel=>exact⟨k+2,_,by omega,by go_num,hb1,by simp;omega,by omega,Hz (by rw[← HR.out,HQ.out];simp[HE.out])⟩
       case measure=>simp[intOf];omega
     ·rw[if_neg (fun h=>e3 h.1)] at hr1;have HQ:=Hz hr1
      have b3:¬ ((s[k+1].toNat:Nat):Int)=120:=by
       intro h;apply e3;apply UInt8.toNat_inj.1;have h9:(120:UInt8).toNat=120:=rfl;omega
      clear hr1 hb2 cl e2 e1 e3;go_wp2_with fail;refine(Da _ _ _ _ _ _ (by omega) (by omega) hb (by omega)).mono ?_;rintro e x1 ⟨rfl,hb1⟩;go_wp2_with fail
      go_roundw
      case rel=>exact⟨k+2,_,by omega,by go_num,hb1,by simp;omega,by omega,Hz (by rw[← HR.out,HQ.out];simp[HB2.out])⟩
      case measure=>simp[intOf];omega
   ·rw[if_pos (by simpa using e1)] at hr1;have HQ:=Hz hr1
    have b1:(((s[k].toNat:Nat):Int)==92)=false:=by
     rw[bN];intro h;apply e1;apply UInt8.toNat_inj.1;have h9:(92:UInt8).toNat=92:=rfl;omega
    clear hr1 hbk cl e1;go_wp2_with fail;refine(Da _ _ _ _ _ _ (by omega) (by omega) hb (by omega)).mono ?_;rintro e x1 ⟨rfl,hb1⟩;go_wp2_with fail
    go_roundw
    case rel=>exact⟨k+1,_,by omega,by go_num,hb1,by simp;omega,by omega,Hz (by rw[← HR.out,HQ.out];simp[HB.out])⟩
    case measure=>simp[intOf];omega
  ·have d0:decide (((k:Nat):Int)<(s.size:Int)-1)=false:=decide_eq_false (by omega);have d1:¬ (((k:Nat):Int)<(s.size:Int)-1):=by omega
   have hacc:=HR.out;rw[Sm s k (by omega),List.append_nil] at hacc;have HA:=Hz hacc;clear HR hacc;go_wp2_with fail;refine(Ke _ _ _ _ _ hb).mono ?_;rintro e x1 ⟨rfl,hf⟩;have hql:=Jr acc;go_wp2_with fail;have hq:Dk acc=s.data.toList∨¬ Dk acc=s.data.toList:=Classical.em _;refine(Pg ⟨acc.toArray⟩ (by simp only[ByteArray.size_mk',List.size_toArray];omega) _).mono ?_;rintro e x2 ⟨rfl,hf2⟩;have hr:Cy s.data.toList.length (s.data.toList.drop 1)=acc:=by rw[HA.out,Di,Ar]
   rcases hq with hq|hq
   ·have hq1:(Dk acc==s.toList)=true:=by rw[ByteArray.toList_eq];simpa using hq
    have hu:unq s.data.toList=some acc:=by unfold unq;rw[hr,if_pos hq]
    have HT:=Hz (show Ln s.data.toList=acc by unfold Ln;rw[hu];rfl);have HE:=Hz (show Lm s.data.toList=0 by unfold Lm;rw[hu];rfl);clear hq hu hr;go_wp2_with fail;go_ret2;exact⟨by rw[HT.out,HE.out];rfl,hf.trans hf2⟩
   ·have hq1:(Dk acc==s.toList)=false:=by rw[ByteArray.toList_eq];simpa using hq
    have hu:unq s.data.toList=none:=by unfold unq;rw[hr,if_neg hq]
    have HT:=Hz (show Ln s.data.toList=[] by unfold Ln;rw[hu];rfl);have HE:=Hz (show Lm s.data.toList=5 by unfold Lm;rw[hu];rfl);clear hq hu hr;go_wp2_with fail;go_ret2;exact⟨by rw[HT.out,HE.out];rfl,hf.trans hf2⟩
def Nl(s:LB)(acc t:LB):Prop:=∀ l,Dk l=s↔∃ m,l=acc++m∧Co m=t
theorem Nl.step{s acc t:LB}{c:UInt8}(h:Nl s acc (quo c++t)):Nl s (acc++[c]) t:=by
 intro l;rw[h l];constructor
 ·rintro⟨m,rfl,hm⟩
  cases m with
  | nil=>have:=quo_ne c;simp[Co] at hm;exact absurd hm.1 this
  | cons d m =>
   simp only[Co,List.flatMap_cons] at hm;obtain⟨rfl,h2⟩:=Qb hm;exact⟨m,by simp,h2⟩
 ·rintro⟨m,rfl,hm⟩;exact⟨c::m,by simp,by simp only[Co,List.flatMap_cons] at hm ⊢;rw[hm]⟩
theorem Nl.end{s acc:LB}(h:Nl s acc []):unq s=some acc:=by
 rw[unq_iff,h acc];exact⟨[],by simp,rfl⟩
theorem Nl.none{s acc t:LB}(h:Nl s acc t)(ht:t≠[])(hn:∀ c:UInt8,¬ quo c <+: t):unq s=none:=by
 cases e:unq s with
 | none=>rfl
 | some l =>
  obtain⟨m,_,hm⟩:=(h l).1 (H4 e)
  cases m with
  | nil=>exact absurd hm.symm ht
  | cons d m=>exact absurd ⟨Co m,by rw[← hm];rfl⟩ (hn d)
theorem unq_n{s:LB}(h:unq s=none):Ln s=[]∧Lm s=5:=by unfold Ln Lm;rw[h];exact⟨rfl,rfl⟩
theorem unq_s{s l:LB}(h:unq s=some l):Ln s=l∧Lm s=0:=by unfold Ln Lm;rw[h];exact⟨rfl,rfl⟩
theorem Nj.none(w:World):Nj w.heap.size (.slice (some ⟨w.heap.size,0,none⟩) 0 0) [] (w.alloc (.cells #[] 5)):=
 ⟨World.ownsRow_lit w #[] 0 (Nat.zero_le _) (by decide) rfl,fun g hg=>by simp[Value.ownBlock] at hg;omega⟩
theorem Rq(t:ByteArray)(n:Nat):(t.extract 0 n).toList=t.data.toList.take n:=by
 rw[ByteArray.toList_eq];simp
theorem pfx_iff(t:ByteArray)(q:LB):q <+: t.data.toList↔q.length≤t.size∧((t.extract 0 q.length).toList==q)=true:=by
 rw[Rq,beq_iff_eq];constructor
 ·intro h;refine⟨by have:=h.length_le;rwa [Ar] at this,?_⟩;exact(List.prefix_iff_eq_take.1 h).symm
 ·rintro⟨_,h⟩;rw[← h];exact List.take_prefix _ _
def Eo(x:Int):Bool:=(decide (97≤x)&&decide (x≤122))||x==95
def El(x:Int):Bool:=decide (65≤x)&&decide (x≤90)
def Fw(x:Int):Bool:=decide (48≤x)&&decide (x≤57)
theorem Bm(x:Int)(w:World):Calls prog 41 #[.int .i32 x] w fun e w'=>e = .returned (.bool (Eo x))∧w=w':=by
 go_enter func41,ntmps41;go_wp2_with fail
 all_goals go_ret
 all_goals exact⟨Jw (by rw[Bool.eq_iff_iff];simp[Eo];omega),rfl⟩
theorem Bl(x:Int)(w:World):Calls prog 44 #[.int .i32 x] w fun e w'=>e = .returned (.bool (El x))∧w=w':=by
 go_enter func44,ntmps44;go_wp2_with fail
 all_goals go_ret
 all_goals exact⟨Jw (by rw[Bool.eq_iff_iff];simp[El];omega),rfl⟩
theorem Ca(x:Int)(w:World):Calls prog 45 #[.int .i32 x] w fun e w'=>e = .returned (.bool (Fw x))∧w=w':=by
 go_enter func45,ntmps45;go_wp2_with fail
 all_goals go_ret
 all_goals exact⟨Jw (by rw[Bool.eq_iff_iff];simp[Fw];omega),rfl⟩
theorem B2(c:UInt8):Eo ((c.toNat:Nat):Int)=Ds c:=by
 have h:∀ c:Fin 256,Eo (((UInt8.ofNat c.val).toNat:Nat):Int)=Ds (UInt8.ofNat c.val):=by decide +kernel
 simpa using h ⟨c.toNat,c.toNat_lt⟩
theorem Bq(c:UInt8):El ((c.toNat:Nat):Int)=Cj c:=by
 have h:∀ c:Fin 256,El (((UInt8.ofNat c.val).toNat:Nat):Int)=Cj (UInt8.ofNat c.val):=by decide +kernel
 simpa using h ⟨c.toNat,c.toNat_lt⟩
theorem C6(c:UInt8):Fw ((c.toNat:Nat):Int)=Bz c:=by
 have h:∀ c:Fin 256,Fw (((UInt8.ofNat c.val).toNat:Nat):Int)=Bz (UInt8.ofNat c.val):=by decide +kernel
 simpa using h ⟨c.toNat,c.toNat_lt⟩
theorem Hm(x:Int)(h:128≤x):Eo x=false∧El x=false∧Fw x=false:=by
 refine⟨?_,?_,?_⟩
 ·rw[Bool.eq_false_iff];intro e;simp[Eo] at e;omega
 ·rw[Bool.eq_false_iff];intro e;simp[El] at e;omega
 ·rw[Bool.eq_false_iff];intro e;simp[Fw] at e;omega
theorem Pl(c:UInt8)(h:128≤c.toNat):Cq c=false:=by
 obtain⟨h1,h2,h3⟩:=Hm ((c.toNat:Nat):Int) (by omega);rw[B2] at h1;rw[Bq] at h2;rw[C6] at h3;simp[Cq,h1,h2,h3]
theorem O7(s:ByteArray)(k:Nat)(hk:k≤s.size)(h:∀ j (hj:j<k),Cq (s[j]'(by omega))=true)(he:k=s.size∨∃ hk2:k<s.size,Cq s[k]=false):
  Bn s.data.toList=s.data.toList.take k:=by
 unfold Bn;have hs:s.data.toList=s.data.toList.take k++s.data.toList.drop k:=(List.take_append_drop k _).symm
 conv=>lhs;rw[hs]
 rw[List.takeWhile_append_of_pos]
 ·rcases he with rfl|⟨hk2,hb⟩
  ·rw[List.drop_of_length_le (by rw[Ar];exact Nr' _)];simp
  ·rw[Cb s k hk2,List.takeWhile_cons_of_neg (by simp[hb])];simp
 ·intro a ha;obtain⟨j,hj,rfl⟩:=List.getElem_of_mem ha;simp only[List.length_take] at hj;have:=h j (by omega);rw[List.getElem_take];exact this
theorem Ji(s:ByteArray)(k:Nat):s.extract 0 k=⟨(s.data.toList.take k).toArray⟩:=by
 apply ByteArray.ext;apply Array.ext';simp
theorem I5(s:ByteArray)(hs:s.size≤140737488355328)(w:World):
  Calls prog 42 #[.string s] w fun e w'=>e = .returned (.string ⟨(Bn s.data.toList).toArray⟩)∧Fr [] w w':=by
 go_enter func42,ntmps42;go_wp2_with fail;have hit0:(w.iter s 0).heap[w.heap.size]?=some (.stringIter s 0):=World.iter_heap w s 0;have hf0:Fr [] w (w.iter s 0):=(Fr.refl [] w).alloc (.stringIter s 0)
 generalize w.iter s 0=w1 at *
 have hB:w.heap.size≤w.heap.size:=Nr' _;generalize hb0:w.heap.size=B at hit0 hB ⊢
 go_loopw [] (fun wr=>∃ pos:Nat,wr.heap[B]?=some (.stringIter s pos)∧pos≤s.size∧Fr [] w wr∧Hid (∀ j (hj:j<pos) (hj2:j<s.size),Cq s[j]=true)) (fun wr=>s.size-wr.iterPos B)
 case atStart=>exact⟨0,hit0,by omega,hf0,Hz (fun j hj _=>absurd hj (by omega))⟩
 case round =>
  obtain⟨pos,hit,hps,hf,HA⟩:=hrel;clear hit0 hf0;by_cases hp:pos<s.size
  ·have hnx:∀ ty,(Instr.next (.pointer (some ⟨B,0,none⟩)) true ty).run prog wr=_:=fun ty=>Lib.run_next_any_at wr B s pos ty hit hp
   have hit2:=Lib.iterAt_heap wr B s pos (pos+(Utf8.decode s pos).2) hit;have hfb:Fr [] w (wr.iterAt B s (pos+(Utf8.decode s pos).2)):=Fr.of_below (Lib.below_iterAt hf.below0 (k:=B) (by omega) s _);by_cases hbd:Cq s[pos]=true
   ·have hlo:s[pos].toNat<128:=by
     rcases Nat.lt_or_ge s[pos].toNat 128 with h|h
     ·exact h
     ·rw[Pl _ h] at hbd;cases hbd
    have hd:=decode_ascii s pos hp hlo;rw[hd] at hnx hit2 hfb
    have HA2:Hid (∀ j (hj:j<pos+1) (hj2:j<s.size),Cq s[j]=true):=Hz (fun j hj hj2=>by
     rcases Nat.lt_or_ge j pos with h|h
     ·exact HA.out j h hj2
     ·have:j=pos:=by omega
      subst this;exact hbd)
    have key:Eo ((s[pos].toNat:Nat):Int)=true∨(Eo ((s[pos].toNat:Nat):Int)=false∧(El ((s[pos].toNat:Nat):Int)=true∨(El ((s[pos].toNat:Nat):Int)=false∧Fw ((s[pos].toNat:Nat):Int)=true))):=by
     rw[B2,Bq,C6];unfold Cq at hbd;cases h1:Ds s[pos] <;> cases h2:Cj s[pos] <;> simp_all
    clear hbd hd hlo
    rcases key with e1|⟨e1,e2|⟨e2,e3⟩⟩
    ·go_wp2_with fail;refine(Bm _ _).mono ?_;rintro e x1 ⟨rfl,rfl⟩;go_wp2_with fail
     go_roundw
     case rel=>exact⟨pos+1,hit2,by omega,hfb,HA2⟩
     case measure=>simp only[World.iterPos,hit2,hit];omega
    ·go_wp2_with fail;refine(Bm _ _).mono ?_;rintro e x1 ⟨rfl,rfl⟩;go_wp2_with fail;refine(Bl _ _).mono ?_;rintro e x1 ⟨rfl,rfl⟩;go_wp2_with fail
     go_roundw
     case rel=>exact⟨pos+1,hit2,by omega,hfb,HA2⟩
     case measure=>simp only[World.iterPos,hit2,hit];omega
    ·go_wp2_with fail;refine(Bm _ _).mono ?_;rintro e x1 ⟨rfl,rfl⟩;go_wp2_with fail;refine(Bl _ _).mono ?_;rintro e x1 ⟨rfl,rfl⟩;go_wp2_with fail;refine(Ca _ _).mono ?_;rintro e x1 ⟨rfl,rfl⟩;go_wp2_with fail
     go_roundw
     case rel=>exact⟨pos+1,hit2,by omega,hfb,HA2⟩
     case measure=>simp only[World.iterPos,hit2,hit];omega
   ·have hr:=O7 s pos hps (fun j hj=>HA.out j hj (by omega)) (.inr ⟨hp,by simpa using hbd⟩);have HR:=Hz (show s.extract 0 pos=⟨(Bn s.data.toList).toArray⟩ by rw[hr];exact Ji s pos)
    obtain⟨e1,e2,e3⟩:Eo ((Utf8.decode s pos).1:Int)=false∧El ((Utf8.decode s pos).1:Int)=false∧Fw ((Utf8.decode s pos).1:Int)=false:=by
     rcases Nat.lt_or_ge s[pos].toNat 128 with h|h
     ·rw[decode_ascii s pos hp h,B2,Bq,C6];unfold Cq at hbd;cases h1:Ds s[pos] <;> cases h2:Cj s[pos] <;> simp_all
     ·have:=(decode_high s pos hp h).1;exact Hm _ (by omega)
    have q1:0≤(pos:Int)∧(pos:Int)≤(s.size:Int):=by omega
    clear hbd hr;go_wp2_with fail;refine(Bm _ _).mono ?_;rintro e x1 ⟨rfl,rfl⟩;go_wp2_with fail;refine(Bl _ _).mono ?_;rintro e x1 ⟨rfl,rfl⟩;go_wp2_with fail;refine(Ca _ _).mono ?_;rintro e x1 ⟨rfl,rfl⟩;go_wp2_with fail;go_ret;exact⟨by rw[← HR.out];rfl,hfb⟩
  ·have hnx:∀ ty,(Instr.next (.pointer (some ⟨B,0,none⟩)) true ty).run prog wr=_:=fun ty=>Lib.run_next_end_at wr B s pos ty hit hp
   have hpe:pos=s.size:=by omega
   subst hpe;have hr:=O7 s s.size (Nr' _) (fun j hj=>HA.out j hj hj) (.inl rfl);rw[List.take_of_length_le (by rw[Ar];exact Nr' _)] at hr;have HR:=Hz hr;clear hr;go_wp2_with fail;go_ret;exact⟨by rw[HR.out];rfl,hf⟩
theorem nMax:0<prog.globals.size:=of_decide_eq_true (by kernel_rfl)
structure E2 (w:World):Prop where
 env:Env w
 max:∃ m,w.cell? ⟨0,0,none⟩=some (vI m)
theorem E2.fr{w w':World}(h:E2 w)(hb:Fr [] w w'):E2 w':=by
 obtain⟨he,m,hm⟩:=h;refine⟨he.fr hb,m,?_⟩;rw[hb.cell (p:=⟨0,0,none⟩) (Nl' nMax he.size) (fun h=>by cases h)];exact hm
theorem Kx(s sub:LB):Lib.contains s sub=true↔sub <:+: s:=by
 unfold Lib.contains;rw[decide_eq_true_eq]
 induction s with
 | nil =>
  unfold Lib.index
  cases sub with
  | nil=>simp
  | cons a r=>simp
 | cons b l ih =>
  rw[Lib.index];by_cases hp:sub.isPrefixOf (b::l)=true
  ·rw[if_pos hp];exact⟨fun _=>(List.isPrefixOf_iff_prefix.1 hp).isInfix,fun _=>by omega⟩
  ·rw[if_neg hp]
   have hge:∀ l:LB,-1≤Lib.index l sub:=by
    intro l
    induction l with
    | nil=>unfold Lib.index;split <;> omega
    | cons c r ih2 =>
     rw[Lib.index];split
     ·omega
     ·split
      ·omega
      ·omega
   have:=hge l;by_cases h1:Lib.index l sub = -1
   ·rw[h1] at ih ⊢;simp only[beq_self_eq_true,if_true];constructor
    ·intro h;omega
    ·intro h;rcases List.infix_cons_iff.1 h with h|h
     ·exact absurd (List.isPrefixOf_iff_prefix.2 h) hp
     ·have:=ih.2 h;omega
   ·have h2:(Lib.index l sub == -1)=false:=by rw[bN];exact h1
    rw[h2];simp only[Bool.false_eq_true,if_false];constructor
    ·intro _;exact(ih.1 (by omega)).trans (List.suffix_cons b l).isInfix
    ·intro _;omega
theorem Nx(s:LB)(c:UInt8):decide (0≤Lib.indexByte s c)=s.contains c:=by
 rw[Bool.eq_iff_iff,decide_eq_true_eq,List.contains_iff_mem];have hge:=Lib.indexByte_ge s c;constructor
 ·intro h
  obtain⟨o,ho⟩:∃ o:Nat,Lib.indexByte s c=o:=⟨(Lib.indexByte s c).toNat,by omega⟩
  exact List.mem_of_getElem? (Lib.indexByte_some ho).1
 ·intro h;rcases Int.lt_or_le (Lib.indexByte s c) 0 with h1|h1
  ·obtain⟨k,hk⟩:=List.mem_iff_getElem?.1 h;exact absurd hk (Lib.indexByte_none (by omega) k)
  ·exact h1
theorem Gd(s:ByteArray)(w:World):Calls prog 73 #[.string s,.string ⟨#[32]⟩] w fun e w'=>e = .returned (.bool (s.data.toList.contains 32))∧w'=w:=by
 have h:=Tryz.strings_Contains_one s 32 w;rw[Nx] at h;exact h
theorem I6(s:ByteArray)(w:World)(hE:E2 w)(h0:s.data.toList≠[])(hb:(32:UInt8) ∉ s.data.toList)(W:ByteArray)(hW:W.data.toList=D9)(sub:ByteArray)(hsub:sub.data.toList=[32]++s.data.toList++[32]):
  Calls prog 73 #[.string W,.string sub] w fun e w'=>e = .returned (.bool (Dd s.data.toList))∧w'=w:=by
 obtain⟨_,m,hm⟩:=hE;have h:=Tryz.strings_Contains W sub m w (by rw[← Ar,hW];decide) hm
 have e:Lib.contains W.data.toList sub.data.toList=Dd s.data.toList:=by
  rw[Bool.eq_iff_iff,Kx,Ny _ h0 hb,hW,hsub]
 rw[e] at h;exact h
theorem Nz:Dd []=false:=by decide
theorem Kz{s:LB}(h:(32:UInt8) ∈ s):Dd s=false:=by
 rw[Bool.eq_false_iff];intro hw;exact(Nh s (by simpa [Dd] using hw)).2 h
theorem Ni(s:ByteArray)(hs:s.size≤1000000)(w:World)(hE:E2 w):
  Calls prog 43 #[.string s] w fun e w'=>e = .returned (.bool (Dd s.data.toList))∧Fr [] w w':=by
 by_cases h0:s.data.toList=[]
 ·have e0:s.toList.isEmpty=true:=by rw[ByteArray.toList_eq,h0];rfl
  have e1:s.toList=[]:=by rw[ByteArray.toList_eq,h0]
  rw[h0,Nz];go_enter func43,ntmps43;go_wp2_with fail;go_ret;exact⟨rfl,Fr.refl _ _⟩
 ·have e1:¬ s.toList=[]:=by rw[ByteArray.toList_eq];exact h0
  have e0:s.toList.isEmpty=false:=by rw[ByteArray.toList_eq];cases h:s.data.toList with|nil=>exact absurd h h0|cons _ _=>rfl
  by_cases hb:(32:UInt8) ∈ s.data.toList
  ·have c1:=Hz (Gd s w);have e2:s.data.toList.contains 32=true:=List.contains_iff_mem.2 hb;rw[Kz hb];go_enter func43,ntmps43;go_wp2_with fail;refine c1.out.mono ?_;rintro e x1 ⟨rfl,rfl⟩;go_wp2_with fail;go_ret;exact⟨rfl,Fr.refl _ _⟩
  ·have c1:=Hz (Gd s w);have e2:s.data.toList.contains 32=false:=by rw[Bool.eq_false_iff];intro h;exact hb (List.contains_iff_mem.1 h)
   have c2:=fun W hW sub hsub=>Hz (I6 s w hE h0 hb W hW sub hsub)
   go_enter func43,ntmps43;go_wp2_with fail;refine c1.out.mono ?_;rintro e x1 ⟨rfl,rfl⟩;go_wp2_with fail;refine(c2 _ (by decide) _ (by simp)).out.mono ?_;rintro e x1 ⟨rfl,rfl⟩;go_wp2_with fail;go_ret;exact⟨rfl,Fr.refl _ _⟩
def Es(s:ByteArray)(i:Nat):Option Nat:=(D1 (s.data.toList.drop i)).map (·+i)
theorem P9(s:ByteArray)(i:Nat)(h:s.size≤i):Es s i=none:=by
 unfold Es;rw[List.drop_of_length_le (by rw[Ar];exact h)];rfl
theorem Ms(s:ByteArray)(i:Nat)(h:i<s.size)(hc:s[i]=34):Es s i=some (i+1):=by
 unfold Es;rw[Cb s i h,hc,Sj];simp[Nat.add_comm]
theorem Mr(s:ByteArray)(i:Nat)(h:i<s.size)(h1:s[i]≠92)(h2:s[i]≠34):Es s i=Es s (i+1):=by
 unfold Es;rw[Cb s i h,Ob _ _ h1 h2]
 cases D1 (s.data.toList.drop (i+1))with
 | none=>rfl
 | some k=>simp;omega
theorem Qa(s:ByteArray)(i:Nat)(h:i<s.size)(hc:s[i]=92):Es s i=Es s (i+2):=by
 unfold Es;rw[Cb s i h,hc];by_cases h2:i+1<s.size
 ·rw[Cb s (i+1) h2,Sk]
  cases D1 (s.data.toList.drop (i+1+1))with
  | none=>rfl
  | some k=>simp;omega
 ·rw[List.drop_of_length_le (by rw[Ar];omega),List.drop_of_length_le (by rw[Ar];omega),Sl];rfl
def Lg(l:LB):Option LB:=(D1 (l.drop 1)).map fun k=>l.take (1+k)
theorem Oc(s:ByteArray)(hs:s.size≤1000000)(w:World):
  Calls prog 47 #[.string s] w fun e w'=>e = .returned (.tuple #[.string ⟨((Lg s.data.toList).getD []).toArray⟩,.bool (Lg s.data.toList).isSome])∧w=w':=by
 have e0:Lg s.data.toList=(Es s 1).map fun k=>s.data.toList.take k:=by
  unfold Lg Es
  cases D1 (s.data.toList.drop 1)with
  | none=>rfl
  | some k=>simp[Nat.add_comm]
 rw[e0];clear e0;have HQ:Hid (Es s 1=Es s 1):=Hz rfl;generalize hg:Es s 1=Q at HQ ⊢;have HG:=Hz hg;clear hg;go_enter func47,ntmps47;go_wp2_with fail
 go_loop [4] (fun i=>∃ k:Nat,i=vI k∧k≤s.size+2∧Hid (Es s k=Q)) (fun i=>s.size-(intOf i).toNat)
 case atStart=>exact⟨1,rfl,by omega,HG⟩
 case round =>
  obtain⟨k,rfl,hk,HK⟩:=hrel;clear HG HQ;by_cases hlt:k<s.size
  ·by_cases h1:s[k]=92
   ·have HK2:=Hz ((Qa s k hlt h1).symm.trans HK.out);have b1:(((s[k].toNat:Nat):Int)==92)=true:=by rw[h1];rfl
    clear h1;go_wp2_with fail
    go_round
    case rel=>exact⟨k+2,by go_num,by omega,HK2⟩
    case measure=>simp[intOf];omega
   ·have b1:(((s[k].toNat:Nat):Int)==92)=false:=by
     rw[bN];intro h;apply h1;apply UInt8.toNat_inj.1;have h9:(92:UInt8).toNat=92:=rfl;omega
    by_cases h2:s[k]=34
    ·have hq:=(Ms s k hlt h2).symm.trans HK.out;subst hq;have b2:(((s[k].toNat:Nat):Int)==34)=true:=by rw[h2];rfl
     have q1:0≤(k:Int)+1∧(k:Int)+1≤(s.size:Int):=by omega
     clear h1 h2 HK;go_wp2_with fail;go_ret2;exact⟨by rw[← Ji];rfl,rfl⟩
    ·have b2:(((s[k].toNat:Nat):Int)==34)=false:=by
      rw[bN];intro h;apply h2;apply UInt8.toNat_inj.1;have h9:(34:UInt8).toNat=34:=rfl;omega
     have HK2:=Hz ((Mr s k hlt h1 h2).symm.trans HK.out);clear h1 h2;go_wp2_with fail
     go_round
     case rel=>exact⟨k+1,by go_num,by omega,HK2⟩
     case measure=>simp[intOf];omega
  ·have hq:=(P9 s k (by omega)).symm.trans HK.out;subst hq;go_wp2_with fail;go_ret2;exact⟨rfl,rfl⟩
end Go.Proofs.YtpjkfeehgookkaaGreatDoor
