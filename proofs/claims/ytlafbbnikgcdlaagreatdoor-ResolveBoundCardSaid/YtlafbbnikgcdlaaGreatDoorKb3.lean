/- A part of the proof: W4, W7, W8, W9, W10, W11, W12, L1, L2, L2n. -/
import Derived.Test.YtlafbbnikgcdlaaGreatDoorRows
import Derived.Test.YtlafbbnikgcdlaaGreatDoorShelf
import Derived.Lib.Builder
import Derived.Lib.AppendStr
import Derived.Lib.UnsafeStr
import Derived.Lib.Bytes
import Derived.Laws.Externs
import Derived.Shelf.Strings.SlTrimAscii
import Derived.Lib.ConvBytes
import Derived.Deep.RegionWith
import Derived.Lib.OthersKept
import Derived.Lib.IndexMore
import Derived.Lib.IndexBytes
import Derived.Test.YtlafbbnikgcdlaaGreatDoorKb1
namespace Go.Proofs.YtlafbbnikgcdlaaGreatDoor
open Go.RowKit
open _root_.Go.Proofs.Tryz
set_option linter.all false
set_option maxHeartbeats 16000000
set_option maxRecDepth 100000
variable{p:Prop}
open List renaming length_cons→Lc',length_append→La',getElem?_eq_getElem→Lg',length_nil→Ln'
open Nat renaming lt_of_lt_of_le→Nl',le_refl→Nr'
open Bool renaming and_eq_true→Ba'
def L4(T:TypeId)(b:Nat)(own:Option Nat)(l:LB)(w:World):Prop :=
 ∃ p v,(p = .pointer none∨p = .pointer (some ⟨b,0,none⟩))∧w.heap[b]?=some (.cells #[p,v] T (0,0))∧w.ownsRow 0 5 1 v l.length (Lib.byteCells l)∧v.ownBlock=own
abbrev Bld:=L4 133
def BT(T:TypeId):Prop:=liesAt prog prog.depth T (2 / prog.cellsOf T) 0 133 1=true∧T≠5
theorem L4.fresh(T:TypeId)(w:World):L4 T w.heap.size none [] (w.alloc (.cells #[.pointer none,vZ] T)):=
 ⟨_,_,.inl rfl,Ag w _,World.ownsRow_nil _ _ _ _,rfl⟩
theorem Bld.fresh(w:World):Bld w.heap.size none [] (w.alloc (.cells #[.pointer none,vZ] 133)):=L4.fresh _ w
theorem L4.own_ne{T:TypeId}{b:Nat}{own:Option Nat}{l:LB}{w:World}(h:L4 T b own l w)(hT:BT T):own≠some b:=by
 obtain⟨p,v,_,hb,hown,rfl⟩:=h;exact Lib.ownBlock_ne hown hb hT.2
theorem L4.lt{T:TypeId}{b:Nat}{own:Option Nat}{l:LB}{w:World}(h:L4 T b own l w):b<w.heap.size:=by
 obtain⟨p,v,_,hb,_⟩:=h;exact Aa hb
theorem L4.own_lt{T:TypeId}{b:Nat}{own:Option Nat}{l:LB}{w:World}(h:L4 T b own l w):∀ g,own=some g→g<w.heap.size:=by
 obtain⟨p,v,_,hb,hown,rfl⟩:=h;exact fun g hg=>(hown.lt g hg).2
theorem L4.keep{T:TypeId}{b:Nat}{own:Option Nat}{l:LB}{w w':World}{L:List Nat}(h:L4 T b own l w)(hf:Fr L w w')(h1:b ∉ L)(h2:∀ g,own=some g→g ∉ L):L4 T b own l w':=by
 obtain⟨p,v,hp,hb,hown,ho⟩:=h;refine⟨p,v,hp,hf.keep hb h1,⟨hown.1,?_⟩,ho⟩
 rcases hown.2 with hn|⟨g,cap,cur,hv,hb2,hg,Gz⟩
 ·exact .inl hn
 ·exact .inr ⟨g,cap,cur,hv,hb2,hf.keep hg (h2 g (by rw[← ho,hv];rfl)),Gz⟩
theorem W7:(prog.info? 5).map (fun i=>(i.zero,i.size,i.bytes))=some (some (.int .u8 0),1,1):=by kernel_rfl
theorem P4:(prog.info? 133).map (·.size)=some 2:=by kernel_rfl
theorem Mv:BT 133:=⟨by kernel_rfl,dC⟩
theorem Rl(b:Nat)(w:World)(h0:w.cell? ⟨b,0,none⟩=some (.pointer (some ⟨b,0,none⟩))):
  Calls prog 134 #[.pointer (some ⟨b,0,none⟩)] w fun e w'=>e = .returned (.tuple #[])∧w=w':=by
 obtain⟨j,hj,_⟩:=Option.map_eq_some_iff.1 P4;go_enter func134,ntmps134
 go_wp2
 rw[Lib.run_neq_ptr_same w _ underlying130 hj]
 go_wp2
 go_end0
 exact qq288
theorem Qg(T:TypeId)(hT:BT T)(b:Nat)(w:World)(h0:w.cell? ⟨b,0,none⟩=some (.pointer none))(hsh:w.shape? b=some (T,2))(hfz:w.frozen? ⟨b,0,none⟩=false):
  Calls prog 134 #[.pointer (some ⟨b,0,none⟩)] w fun e w'=>e = .returned (.tuple #[])∧w'=w.setCell ⟨b,0,none⟩ (.pointer (some ⟨b,0,none⟩)):=by
 obtain⟨j,hj,hjs⟩:=Option.map_eq_some_iff.1 P4;go_enter func134,ntmps134
 go_wp2
 rw[Lib.run_to_unsafe w ⟨b,0,none⟩ underlying130 underlying212 hj (by rw[hjs];decide) hsh (Nat.zero_lt_succ 1)];simp only[Result.andThen];rw[Oper.upon_value]
 go_wp2
 rw[run_callFunc_extern func157 kR kR kR (e:=Extern.AbiNoEscape.same) kR];rw[Lib.run_noEscape];simp only[Result.andThen];rw[Oper.upon_value]
 go_wp2
 rw[Lib.run_from_unsafe w ⟨b,0,none⟩ underlying212 underlying130 hj hsh hT.1];simp only[Result.andThen];rw[Oper.upon_value]
 go_wp2
 go_end0
 exact qq288
theorem Pz(T:TypeId)(hT:BT T)(b:Nat)(own:Option Nat)(l:LB)(w:World)(h:L4 T b own l w):
  Calls prog 134 #[.pointer (some ⟨b,0,none⟩)] w fun e w'=>e = .returned (.tuple #[])∧(∃ v,w'.heap[b]?=some (.cells #[.pointer (some ⟨b,0,none⟩),v] T (0,0))∧w'.ownsRow 0 5 1 v l.length (Lib.byteCells l)∧v.ownBlock=own)∧Fr [b] w w':=by
 have hne:=h.own_ne hT;obtain⟨p,v,hp,hb,hown,ho⟩:=h;rcases hp with rfl|rfl
 ·refine(Qg T hT b w (by rw[Ab hb];rfl) (by simp[World.shape?,hb]) (Ap hb 0)).mono ?_;rintro e w' ⟨rfl,rfl⟩;refine⟨rfl,⟨v,by simp[World.setCell,Array.getElem?_modify,hb],?_,ho⟩,(Fr.refl [b] w).setCell (p:=⟨b,0,none⟩) (.inl sM) _⟩;exact hown.kept (row:=some b) ⟨rfl,rfl,rfl,by simp[World.setCell],fun k _ hk=>Below.heap_setCell _ _ _ _ (fun e=>hk (by simp[e]))⟩ (Or.inr (by rw[ho];exact hne))
 ·refine(Rl b w (by rw[Ab hb];rfl)).mono ?_;rintro e w' ⟨rfl,rfl⟩;exact⟨rfl,⟨v,hb,hown,ho⟩,Fr.refl _ _⟩
structure WroteT (T:TypeId)(b:Nat)(own:Option Nat)(l:LB)(w w':World):Prop where
 out:∃ own',L4 T b own' l w'∧∀ g,own'=some g→own=some g∨w.heap.size≤g
 fr:Fr (b::own.toList) w w'
abbrev Wrote:=WroteT 133
theorem nn547(h:p:=by
 go_wp2_with (at_builtin;refine D2 _ rfl _ _ 131 rfl 5 i0 (.int .u8 0) 1 1 underlying131 hi hz0 hz1 hz2 rfl dC _ _ _ rfl (hown.alloc _) ⟨w1.heap.size,0,none⟩ 1 1 [.int .u8 c] rfl rfl ?c1 ?c2 ?c3 ?c4 ?_)
 case c1 =>
  intro j u hj
  match j,hj with
  | 0,hj=>simp at hj;subst hj;simp[Addr.add]
 case c2=>intro u hu;simp at hu;subst hu;rfl
 case c3=>unfold maxLen;omega
 case c4=>omega
 intro v' w2 hown' hgrow hfp;have hlt:b<w1.heap.size:=Aa hbk
 have hb2:w2.heap[b]?=some (.cells #[.pointer (some ⟨b,0,none⟩),v] 133 (0,0)):=by
  rw[hgrow.block b sO (fun e=>hne (by rw[← HO.out,← e])),Lib.alloc_old w1 _ b hlt];exact hbk
 have kqq346:=@Hz _ @nn661;exact qq346):p:=h
theorem nn661(h:p:=by
 obtain⟨g,cap,rfl⟩:∃ g cap,v' = .slice (some ⟨g,0,none⟩) (l.length+1) cap:=by
  rcases hown'.2 with⟨_,h0⟩| ⟨g,cap,cur,hv,_⟩
  ·omega
  ·exact⟨g,cap,hv⟩
 have hf2:Fr (b::own.toList) w w2:=by
  refine((hf1.mono (L':=b::own.toList) (fun x hx => .inl (by simp at hx;simp[hx]))).alloc (.cells #[.int .u8 c] 5)).append hgrow ?_;intro g hg;rw[HO.out] at hg;exact .inl (by simp[hg])
 go_wp2
 go_ret;have hown2:w2.ownsRow 0 5 1 (.slice (some ⟨g,0,none⟩) (l.length+1) cap) (l.length+1) (Lib.byteCells (l++[UInt8.ofNat c.toNat])):=by rw[Hc.out];exact hown'
 have hgb:(Value.slice (some ⟨g,0,none⟩) (l.length+1) cap).ownBlock≠some b:=Lib.ownBlock_ne hown2 hb2 dC;refine⟨rfl,⟨some g,⟨_,.slice (some ⟨g,0,none⟩) (l.length+1) cap,.inr rfl,by simp[World.setCell,Array.getElem?_modify,hb2],?_,rfl⟩,?_⟩,?_⟩
 ·have:(l++[UInt8.ofNat c.toNat]).length=l.length+1:=by simp
  exact qq190
 ·intro g' hg';rcases hfp g' hg' with h1|h1
  ·exact .inl (by rw[← HO.out,h1])
  ·refine .inr ?_;have:=hf1.size;have h2:(w1.alloc (.cells #[.int .u8 c] 5)).heap.size=w1.heap.size+1:=by simp
   omega
 ·exact hf2.setCell (p:=⟨b,1,none⟩) (.inl sM) _):p:=h
theorem Td(b:Nat)(own:Option Nat)(l:LB)(c:Int)(c0:0≤c)(c1:c≤255)(w:World)(h:Bld b own l w)(hlen:l.length+1≤140737488355328):
  Calls prog 103 #[.pointer (some ⟨b,0,none⟩),.int .u8 c] w fun e w'=>e = .returned .nilIface∧Wrote b own (l++[UInt8.ofNat c.toNat]) w w':=by
 obtain⟨i0,hi,hz0,hz1,hz2⟩:=info_parts W7;have hne:=h.own_ne Mv;have hol:=h.own_lt
 have hcell:Lib.byteCells (l++[UInt8.ofNat c.toNat])=Lib.byteCells l++[.int .u8 c]:=by
  have:=ofNat_toNat c c0 c1;simp only[Lib.byteCells,List.map_append,List.map_cons,List.map_nil,this]
 have Hc:=Hz hcell;clear hcell;go_enter func103,ntmps103;go_wp2_with (go_at_call 134;refine(Pz _ Mv b own l _ h).mono ?_);have kqq283:=@Hz _ @nn547;exact qq283
theorem nn546(h:p:=by
 go_wp2_with (at_builtin;refine Lj _ rfl _ _ 131 9 rfl 5 i0 underlying131 underlying9 hi hz0 hz1 hz2 _ _ _ rfl hown s rfl ?c3 ?c4 ?_)
 case c3=>unfold maxLen;omega
 case c4=>omega
 intro v' w2 hown' hgrow hfp;have hlt:b<w1.heap.size:=Aa hbk
 have hb2:w2.heap[b]?=some (.cells #[.pointer (some ⟨b,0,none⟩),v] T (0,0)):=by
  rw[hgrow.block b hlt (fun e=>hne (by rw[← HO.out,← e]))];exact hbk
 have kqq346:=@Hz _ @nn662;exact qq346):p:=h
theorem nn662(h:p:=by
 obtain⟨ao,n',cap,hv'⟩:∃ ao n' cap,v' = .slice ao n' cap:=by
  rcases hown'.2 with⟨hv,_⟩| ⟨g,cap,cur,hv,_⟩
  ·exact qq286
  ·exact qq286
 subst hv'
 have hf2:Fr (b::own.toList) w w2:=by
  refine(hf1.mono (L':=b::own.toList) (fun x hx => .inl (by simp at hx;simp[hx]))).append hgrow ?_;intro g hg;rw[HO.out] at hg;exact .inl (by simp[hg])
 go_wp2
 go_ret2;have hown2:w2.ownsRow 0 5 1 (.slice ao n' cap) (l.length+s.size) (Lib.byteCells (l++s.data.toList)):=by rw[Hc.out];exact hown'
 have hgb:(Value.slice ao n' cap).ownBlock≠some b:=Lib.ownBlock_ne hown2 hb2 hT.2;refine⟨rfl,⟨(Value.slice ao n' cap).ownBlock,⟨_,.slice ao n' cap,.inr rfl,by simp[World.setCell,Array.getElem?_modify,hb2],?_,rfl⟩,?_⟩,?_⟩
 ·have:(l++s.data.toList).length=l.length+s.size:=by rw[La'];rfl
  exact qq190
 ·intro g' hg';rcases hfp g' hg' with h1|h1
  ·exact .inl (by rw[← HO.out,h1])
  ·exact .inr (Nat.le_trans hf1.size h1)
 ·exact hf2.setCell (p:=⟨b,1,none⟩) (.inl sM) _):p:=h
theorem Nm(T:TypeId)(hT:BT T)(b:Nat)(own:Option Nat)(l:LB)(s:ByteArray)(w:World)(h:L4 T b own l w)(hlen:l.length+s.size≤140737488355328):
  Calls prog 112 #[.pointer (some ⟨b,0,none⟩),.string s] w fun e w'=>e = .returned (.tuple #[vI s.size,.nilIface])∧WroteT T b own (l++s.data.toList) w w':=by
 obtain⟨i0,hi,hz0,hz1,hz2⟩:=info_parts W7;have hne:=h.own_ne hT;have hol:=h.own_lt;have hcell:Lib.byteCells (l++s.data.toList)=Lib.byteCells l++Lib.strCells s:=by rw[Th,Lib.byteCells_append]
 have Hc:=Hz hcell;clear hcell;go_enter func112,ntmps112;go_wp2_with (go_at_call 134;refine(Pz T hT b own l _ h).mono ?_);have kqq283:=@Hz _ @nn546;exact qq283
theorem Qe(b:Nat)(own:Option Nat)(l:LB)(s:ByteArray)(w:World)(h:Bld b own l w)(hlen:l.length+s.size≤140737488355328):
  Calls prog 112 #[.pointer (some ⟨b,0,none⟩),.string s] w fun e w'=>e = .returned (.tuple #[vI s.size,.nilIface])∧Wrote b own (l++s.data.toList) w w':=Nm _ Mv b own l s w h hlen
theorem Y8(B b:Nat)(own:Option Nat)(l:LB)(w:World)(h:Bld b own l w)(hB:B≤b)(hO:∀ g,own=some g→B≤g):
  Calls prog 78 #[.pointer (some ⟨b,0,none⟩)] w fun e w'=>e = .returned (vS l)∧Below B w w':=by
 have hlt:=h.lt;have hne:=h.own_ne Mv;refine Tryz.Builder_String_any B b l w ?_ oM;obtain⟨p,v,hp,hb,hown,rfl⟩:=h
 have hown':w.ownsRow B 5 1 v (Lib.byteCells l).length (Lib.byteCells l):=by
  rw[Lib.byteCells_length];refine⟨hown.1,?_⟩
  rcases hown.2 with hn|⟨g,cap,cur,hv,_,Gz⟩
  ·exact .inl hn
  ·exact .inr ⟨g,cap,cur,hv,hO g (by rw[hv];rfl),Gz⟩
 rcases hp with rfl|rfl
 ·exact .inl ⟨hB,v,hb,hown',hne⟩
 ·exact .inr ⟨hB,v,hb,hown',hne⟩
theorem Px(s:ByteArray)(hs:s.size≤9223372036854775807)(w:World):
  Calls prog 101 #[.string s,.string ⟨#[48,49,50,51,52,53,54,55,56,57]⟩] w fun e w'=>e = .returned (.string ⟨(Lib.trimS s.data.toList Mw).toArray⟩)∧Fr [] w w' :=
 (Any.strings_Trim_laid Tryz.lays160 kR s ⟨#[48,49,50,51,52,53,54,55,56,57]⟩ w hs dC (ascii_of_all dC)).mono fun _ _ ⟨he,hb⟩=>⟨he,Fr.of_below hb⟩
theorem Tu(s:ByteArray)(h:0<s.size):s.data.toList.head?=some s[0]:=by
 rw[List.head?_eq_getElem?,Lg' (by simpa using h)];rfl
theorem Xt{s:ByteArray}(h:s.toList=[]∨(∃ h0:0<s.size,((s[0].toNat:Nat):Int)=48∧1<(s.size:Int))∨¬ s.data.toList.all De=true):Dy s.data.toList=0∧Ft s.data.toList=5:=by
 have hn:Gx s.data.toList=false:=by
  unfold Gx;rcases h with h|⟨h0,h48,h1⟩| h
  ·rw[Lib.toList_data] at h;simp[h]
  ·have hh:=Tu s h0
   have e48:s[0]=48:=by
    have:s[0].toNat=(48:UInt8).toNat:=by
     have:(48:UInt8).toNat=48:=rfl;omega
    exact UInt8.toNat_inj.1 this
   have hl:1<s.data.toList.length:=by have:=Bu s;omega
   rw[hh,e48];simp only[beq_self_eq_true,Bool.true_and,decide_eq_true hl,Bool.or_true,Bool.true_or,Bool.not_true]
  ·have:s.data.toList.all De=false:=by simpa using h
   rw[this];simp only[Bool.not_false,Bool.or_true,Bool.not_true]
 unfold Dy Ft;rw[hn];simp
theorem Zt{s:ByteArray}(h:¬ s.toList=[])(h1:∀ h0:0<s.size,((s[0].toNat:Nat):Int)=48→(s.size:Int)≤1)(hd:s.data.toList.all De=true):Gx s.data.toList=true:=by
 rw[Lib.toList_data] at h
 have h0:0<s.size:=by
  rcases Nat.eq_zero_or_pos s.size with h' | h'
  ·exact absurd (List.eq_nil_of_length_eq_zero (by rw[Bu];exact h')) h
  ·exact h'
 unfold Gx;rw[hd,Tu s h0];have hne:s.data.toList.isEmpty=false:=by simpa using h
 rw[hne]
 have:(some s[0]==some (48:UInt8)&&decide (1<s.data.toList.length))=false:=by
  by_cases e:s[0]=48
  ·have:=h1 h0 (by rw[e];rfl);have h2:¬ 1<s.data.toList.length:=by rw[Bu];omega
   rw[decide_eq_false h2,Bool.and_false]
  ·have:(some s[0]==some (48:UInt8))=false:=by simpa using e
   rw[this,Bool.false_and]
 rw[this];rfl
theorem Tg{l:LB}(h:Gx l=true):Lib.parseIntB 64 l=if Gu 0 l≤9223372036854775807 then .ok (Gu 0 l:Int)else .range:=by
 unfold Gx at h;simp only[Bool.not_eq_true',Bool.or_eq_false_iff] at h;obtain⟨⟨hne,_⟩,hd⟩:=h;have hd':l.all De=true:=by simpa using hd
 cases l with
 | nil=>simp at hne
 | cons c r =>
  have hc:De c=true:=by
   simp only[List.all_cons,Ba'] at hd';exact hd'.1
  have hc':=(Hn c).1 hc;unfold Lib.parseIntB;have e1:¬ (c.toNat=43∨c.toNat=45):=by omega
  have e2:¬ c.toNat=45:=by omega
  simp only[if_neg e1];have hp:Lib.parseUintB 64 (c::r)=Lib.parseUintM (2 ^ 64-1) 0 (c::r):=by unfold Lib.parseUintB;rw[if_neg sM]
  rw[hp,Mj _ dC _ 0 (Nat.zero_le _) hd'];generalize Gu 0 (c::r)=v;by_cases hv:v≤2 ^ 64-1
  ·rw[if_pos hv];by_cases hw:v≤9223372036854775807
   ·rw[if_pos hw];show(if ¬ c.toNat=45∧2 ^ (64-1)≤v then Lib.NumEnd.range else if c.toNat=45∧2 ^ (64-1)<v then Lib.NumEnd.range else Lib.NumEnd.ok (if c.toNat=45 then -(v:Int)else v))=_;rw[if_neg oM,if_neg oM,if_neg e2]
   ·rw[if_neg hw];show(if ¬ c.toNat=45∧2 ^ (64-1)≤v then Lib.NumEnd.range else if c.toNat=45∧2 ^ (64-1)<v then Lib.NumEnd.range else Lib.NumEnd.ok (if c.toNat=45 then -(v:Int)else v))=_;rw[if_pos oM]
  ·rw[if_neg hv,if_neg oM]
theorem read_ok{l:LB}(h:Gx l=true)(hv:Gu 0 l≤4611686018427387903):Dy l=Gu 0 l∧Ft l=0:=by
 unfold Dy Ft;rw[if_pos ⟨h,hv⟩,if_pos h,if_pos hv];exact⟨rfl,rfl⟩
theorem Sb{l:LB}(h:Gx l=true)(hv:¬ Gu 0 l≤4611686018427387903):Dy l=0∧Ft l=2:=by
 unfold Dy Ft;rw[if_neg (fun h'=>hv h'.2),if_pos h,if_neg hv];exact⟨rfl,rfl⟩
theorem Read_not(s:ByteArray)(hs:s.size≤281474976710656)(w:World)
  (hn:s.toList=[]∨(∃ h0:0<s.size,((s[0].toNat:Nat):Int)=48∧1<(s.size:Int))∨¬ s.data.toList.all De=true):
  Calls prog 62 #[.string s] w fun e w'=>e = .returned (.tuple #[vI 0,vI 5])∧Fr [] w w':=by
 have HT:=Hz (Px s oM w);have hiff:=O4 s.data.toList
 generalize Lib.trimS s.data.toList Mw=t at *
 by_cases he:s.toList=[]
 ·clear hiff hn;go_enter func62,ntmps62;go_wp2_with fail;go_ret2;exact qq181
 ·have h0:0<s.size:=by
   exact qq191
  have b1:s.toList.isEmpty=false:=by simpa using he
  by_cases z1:((s[0].toNat:Nat):Int)=48
  ·have c1:(((s[0].toNat:Nat):Int)==48)=true:=by simpa using z1
   by_cases z2:1<(s.size:Int)
   ·have c2:decide (1<(s.size:Int))=true:=decide_eq_true z2;clear hiff hn he z1 z2;go_enter func62,ntmps62;go_wp2_with fail;go_ret2;exact qq181
   ·have c2:decide (1<(s.size:Int))=false:=decide_eq_false z2
    have htne:t≠[]:=by
     intro h;rcases hn with hn|⟨_,hn⟩| hn
     ·exact he hn
     ·exact z2 hn.2
     ·exact hn (hiff.1 h)
    have c3:t.isEmpty=false:=by simpa using htne
    clear hiff hn he z1 z2 htne;exact qq217
  ·have c1:(((s[0].toNat:Nat):Int)==48)=false:=by simpa using z1
   have htne:t≠[]:=by
    intro h;rcases hn with hn|⟨_,hn⟩| hn
    ·exact he hn
    ·exact z1 hn.1
    ·exact hn (hiff.1 h)
   have c3:t.isEmpty=false:=by simpa using htne
   clear hiff hn he z1 htne;exact qq217
theorem Nn{w w':World}{T:TypeId}(h:w'=w∨∃ t,w'=Lib.bytesWorld w T t):Fr [] w w':=by
 rcases h with rfl|⟨t,rfl⟩
 ·exact Fr.refl _ _
 ·exact Fr.of_below (Lib.bytesWorld_below _ _ _)
theorem Read_num(s:ByteArray)(hs:s.size≤281474976710656)(w:World)(hE:Env w)(he:¬ s.toList=[])
  (h1:∀ h0:0<s.size,((s[0].toNat:Nat):Int)=48→(s.size:Int)≤1) (hd:s.data.toList.all De=true):
  Calls prog 62 #[.string s] w fun e w'=>e = .returned (.tuple #[vI (Dy s.data.toList),vI (Ft s.data.toList)])∧Fr [] w w':=by
 have hnum:=Zt he h1 hd;have hp:=Tg hnum;have HT:=Hz (Px s oM w);rw[(O4 s.data.toList).2 hd] at HT
 have h0:0<s.size:=by
  exact qq191
 have b1:s.toList.isEmpty=false:=by simpa using he
 have key:(((s[0].toNat:Nat):Int)==48)=false∨((((s[0].toNat:Nat):Int)==48)=true∧decide (1<(s.size:Int))=false):=by
  by_cases z1:((s[0].toNat:Nat):Int)=48
  ·exact .inr ⟨by simpa using z1,decide_eq_false (by have:=h1 h0 z1;omega)⟩
  ·exact .inl (by simpa using z1)
 clear h1 hd he;by_cases hv:Gu 0 s.data.toList≤9223372036854775807
 ·rw[if_pos hv] at hp;have HP:=Hz (fun W:World=>Hz (Tryz.strconv_ParseInt_10_at64_ok s oM _ hp W));have hle:(0:Int)≤(Gu 0 s.data.toList:Int):=by omega
  by_cases hm:Gu 0 s.data.toList≤4611686018427387903
  ·obtain⟨r1,r2⟩:=read_ok hnum hm;rw[r1,r2];have c4:decide (4611686018427387903<(Gu 0 s.data.toList:Int))=false:=decide_eq_false oM;exact qq124
  ·obtain⟨r1,r2⟩:=Sb hnum hm;rw[r1,r2];have c4:decide (4611686018427387903<(Gu 0 s.data.toList:Int))=true:=decide_eq_true oM;exact qq124
 ·rw[if_neg hv] at hp;have HP:=Hz (fun(W:World) (hW:Env W)=>Hz (Tryz.strconv_ParseInt_10_at64_range_var s hs hp hW.rng.choose hW.rng.choose_spec.choose W hW.rng.choose_spec.choose_spec));obtain⟨r1,r2⟩:=Sb hnum oM;rw[r1,r2];clear hp hnum hv r1 r2
  rcases key with c1|⟨c1,c2⟩
  all_goals
   go_enter func62,ntmps62;go_wp2_with fail;refine HT.out.mono ?_;rintro e w1 ⟨rfl,hf⟩;go_wp2_with fail;refine(HP.out _ (hE.fr hf)).out.mono ?_;rintro e w2 ⟨N,rfl,_,_,hw⟩;have hf2:=Fr.of_below hw;clear hw;go_wp2_with fail;go_ret2;exact⟨rfl,hf.trans hf2⟩
theorem Read_any(s:ByteArray)(hs:s.size≤281474976710656)(w:World)(hE:Env w):
  Calls prog 62 #[.string s] w fun e w'=>e = .returned (.tuple #[vI (Dy s.data.toList),vI (Ft s.data.toList)])∧Fr [] w w':=by
 by_cases hn:s.toList=[]∨(∃ h0:0<s.size,((s[0].toNat:Nat):Int)=48∧1<(s.size:Int))∨¬ s.data.toList.all De=true
 ·obtain⟨r1,r2⟩:=Xt hn;rw[r1,r2];exact Read_not s hs w hn
 ·simp only[not_or] at hn;refine Read_num s hs w hE hn.1 (fun h0 h48=>?_) (Classical.not_not.1 hn.2.2);rcases Int.lt_or_le 1 (s.size:Int)with h|h
  ·exact absurd ⟨h0,h48,h⟩ hn.2.1
  ·exact h
theorem take_snoc(s:ByteArray)(k:Nat)(h:k<s.size):s.data.toList.take (k+1)=s.data.toList.take k++[s[k]]:=by
 rw[List.take_succ_eq_append_getElem (by simpa using h)];rfl
theorem quo_str(c:UInt8):quo c=if ((c.toNat:Nat):Int)=34 then [92,34] else if ((c.toNat:Nat):Int)=92 then [92,92] else if ((c.toNat:Nat):Int)=10 then [92,110]
  else if 32≤((c.toNat:Nat):Int)∧((c.toNat:Nat):Int)≤126 then [c] else [92,120,Kz (c.toNat / 16),Kz (c.toNat % 16)]:=by
 have e:∀ k:UInt8,(c=k)↔((c.toNat:Nat):Int)=((k.toNat:Nat):Int):=fun k=>⟨fun h=>by rw[h],fun h=>UInt8.toNat_inj.1 oM⟩
 have e1:=e 34;have e2:=e 92;have e3:=e 10;have n1:(((34:UInt8).toNat:Nat):Int)=34:=rfl;have n2:(((92:UInt8).toNat:Nat):Int)=92:=rfl;have n3:(((10:UInt8).toNat:Nat):Int)=10:=rfl;rw[n1] at e1;rw[n2] at e2;rw[n3] at e3;unfold quo;simp only[e1,e2,e3];have e4:(32≤c.toNat∧c.toNat≤126)↔(32≤((c.toNat:Nat):Int)∧((c.toNat:Nat):Int)≤126):=by omega
 simp only[e4]
theorem hex_at(k:Nat)(h:k<16):Zm[k]?=some (Kz k):=by
 unfold Kz;rw[List.getD_eq_getElem?_getD];have:k<Zm.length:=h;rw[Lg' this];rfl
theorem Vr{P:Program}{T:TypeId}(hT:P.underlying T=some .string)(s:ByteArray)(K:IntKind)(i:Int)(k:Nat)(hi:i=k)(b:UInt8)(hb:s.data.toList[k]?=some b)(W:World):
  (Instr.index T (.string s) (.int K i)).run P W = .ok (.int .u8 (b.toNat:Int)) W:=by
 subst hi
 have h0:s[k]?=some b:=by
  have hk:k<s.data.toList.length:=(List.getElem?_eq_some_iff.1 hb).1;have hk':k<s.size:=by rw[Bu] at hk;exact hk
  rw[getElem?_pos s k hk'];have:=(List.getElem?_eq_some_iff.1 hb).2;rw[← this];rfl
 simp[Instr.index,run_underlying hT,asIntOf,h0]
theorem It{P:Program}{T:TypeId}(hT:P.underlying T=some .string)(K:IntKind)(i:Int)(k:Nat)(hi:i=k)(hk:k<16)(W:World):
  (Instr.index T (.string ⟨#[48,49,50,51,52,53,54,55,56,57,97,98,99,100,101,102]⟩) (.int K i)).run P W = .ok (.int .u8 ((Kz k).toNat:Int)) W :=
 Vr hT _ K i k hi (Kz k) (hex_at k hk) W
theorem X7(l:LB)(c:UInt8):C9 (l++[c])=C9 l++quo c:=by simp[C9]
theorem X8(s:ByteArray)(k:Nat)(h:k<s.size):C9 (s.data.toList.take (k+1))=C9 (s.data.toList.take k)++quo s[k]:=by rw[take_snoc s k h,X7]
theorem Qk(s:ByteArray)(k:Nat)(h:k≤s.size):(C9 (s.data.toList.take k)).length≤4 * s.size:=by
 have h1:=N8 (s.data.toList.take k);have h2:=List.length_take_le k s.data.toList;omega
def Y7(B:Nat)(v:Value)(l:LB)(w:World):Prop:=w.ownsRow 0 5 1 v l.length (Lib.byteCells l)∧∀ g,v.ownBlock=some g→B≤g
theorem Y7.fr{B:Nat}{v:Value}{l:LB}{w w':World}(h:Y7 B v l w)(hf:Fr [] w w'):Y7 B v l w':=⟨Dv h.1 hf (fun _ _ h=>by cases h),h.2⟩
theorem Y7.lit(w:World)(c:UInt8):Y7 w.heap.size (.slice (some ⟨w.heap.size,0,none⟩) 1 1) [c] (w.alloc (.cells #[.int .u8 (c.toNat:Int)] 5)):=
 ⟨World.ownsRow_lit w #[.int .u8 (c.toNat:Int)] 1 (Nat.zero_le _) dC rfl,fun g hg=>by simp[Value.ownBlock] at hg;omega⟩
def BI(w:World)(b:Nat)(r:Option (Nat×Obj))(l:LB)(wr:World):Prop :=
 ∃ own,Bld b own l wr∧(∀ g,own=some g→w.heap.size≤g)∧w.heap.size≤b∧Fr [] w wr∧∀ k o,r=some (k,o)→wr.heap[k]?=some o∧k≠b∧own≠some k
theorem BI.start(w:World):BI w w.heap.size none [] (w.alloc (.cells #[.pointer none,vZ] 133)):=
 ⟨none,Bld.fresh w,(fun _ h=>by cases h),Nr' _,(Fr.refl _ _).alloc _,(fun _ _ h=>by cases h)⟩
theorem BI.beside{w:World}{b:Nat}{l:LB}{wr w':World}(h:BI w b none l wr)(hf:Fr [] wr w'){k:Nat}{o:Obj}(hk:wr.heap.size≤k)(ho:w'.heap[k]?=some o):BI w b (some (k,o)) l w':=by
 obtain⟨own,hb,hg,hbw,hfr,_⟩:=h;refine⟨own,hb.keep hf (fun h=>by cases h) (fun _ _ h=>by cases h),hg,hbw,hfr.trans hf,?_⟩;intro k' o' e;cases e;have:=hb.lt;exact⟨ho,oM,fun e=>by have:=hb.own_lt k e;omega⟩
theorem BI.at{w:World}{b k:Nat}{o:Obj}{l:LB}{wr:World}(h:BI w b (some (k,o)) l wr):wr.heap[k]?=some o:=by
 obtain⟨own,_,_,_,_,hr⟩:=h;exact(hr k o rfl).1
theorem BI.frame{w:World}{b:Nat}{r:Option (Nat×Obj)}{l:LB}{wr:World}(h:BI w b r l wr):Fr [] w wr:=by
 obtain⟨own,_,_,_,hf,_⟩:=h;exact hf
theorem BI.fr{w:World}{b:Nat}{r:Option (Nat×Obj)}{l:LB}{wr w':World}(h:BI w b r l wr)(hf:Fr [] wr w'):BI w b r l w':=by
 exact qq166
theorem BI.wrote{w:World}{b:Nat}{r:Option (Nat×Obj)}{l m:LB}{wr w':World}{own:Option Nat}(_hb:Bld b own l wr)(hg:∀ g,own=some g→w.heap.size≤g)(hbw:w.heap.size≤b)(hfr:Fr [] w wr)
  (hr:∀ k o,r=some (k,o)→wr.heap[k]?=some o∧k≠b∧own≠some k) (hw:Wrote b own m wr w'):BI w b r m w':=by
 obtain⟨⟨own',hb',hfp⟩,hf⟩:=hw;refine⟨own',hb',?_,hbw,hfr.step hf ?_,?_⟩
 ·intro g e;rcases hfp g e with h|h
  ·exact hg g h
  ·have:=hfr.size;omega
 ·exact qq222
 ·exact qq154
theorem Gl(c:Int)(w:World)(b:Nat)(r:Option (Nat×Obj))(l:LB)(wr:World)(c0:0≤c)(c1:c≤255)(h:BI w b r l wr)(hlen:l.length+1≤140737488355328):
  Calls prog 103 #[.pointer (some ⟨b,0,none⟩),.int .u8 c] wr fun e w'=>e = .returned .nilIface∧BI w b r (l++[UInt8.ofNat c.toNat]) w':=by
 obtain⟨own,hb,hg,hbw,hfr,hr⟩:=h
 exact(Td b own l c c0 c1 wr hb hlen).mono fun _ _ ⟨he,hw⟩=>⟨he,BI.wrote hb hg hbw hfr hr hw⟩
theorem BI_text(s:ByteArray)(w:World)(b:Nat)(r:Option (Nat×Obj))(l:LB)(wr:World)(h:BI w b r l wr)(hlen:l.length+s.size≤140737488355328):
  Calls prog 112 #[.pointer (some ⟨b,0,none⟩),.string s] wr fun e w'=>e = .returned (.tuple #[vI s.size,.nilIface])∧BI w b r (l++s.data.toList) w':=by
 obtain⟨own,hb,hg,hbw,hfr,hr⟩:=h
 exact(Qe b own l s wr hb hlen).mono fun _ _ ⟨he,hw⟩=>⟨he,BI.wrote hb hg hbw hfr hr hw⟩
theorem Tj(w:World)(b:Nat)(r:Option (Nat×Obj))(l:LB)(wr:World)(h:BI w b r l wr):
  Calls prog 78 #[.pointer (some ⟨b,0,none⟩)] wr fun e w'=>e = .returned (vS l)∧Fr [] w w':=by
 obtain⟨own,hb,hg,hbw,hfr,hr⟩:=h
 exact(Y8 w.heap.size b own l wr hb hbw hg).mono fun _ _ ⟨he,hw⟩=>⟨he,⟨hw.os.trans hfr.os,hw.tape.trans hfr.tape,hw.output.trans hfr.output,Nat.le_trans hfr.size hw.size,fun k hk _=>(hw.block k hk).trans (hfr.block k hk (fun h=>by cases h))⟩⟩
theorem and15(c:UInt8):bits .and .u8 ((c.toNat:Nat):Int) 15=((c.toNat % 16:Nat):Int):=by
 have h:=c.toNat_lt;rw[show(15:Int)=((15:Nat):Int)from rfl,u8_and_nat c.toNat 15 oM oM];have:c.toNat &&& 15=c.toNat % 16:=Nat.and_two_pow_sub_one_eq_mod c.toNat 4;rw[this]
theorem O9(s:ByteArray)(hs:s.size≤16777216)(w:World):
  Calls prog 86 #[.string s] w fun e w'=>e = .returned (.string ⟨(Dr s.data.toList).toArray⟩)∧Fr [] w w':=by
 have hcv:=fun W=>Lib.run_convert_string_bytes (P:=prog) W 9 131 5 s underlying9 underlying131 underlying5
 go_enter func86,ntmps86;go_wp2_with fail;refine(Gl 34 w w.heap.size none [] _ dC dC (BI.start w) dC).mono ?_;rintro e w1 ⟨rfl,h1⟩;go_wp2_with fail
 have h2:BI w w.heap.size (some (w1.heap.size,.cells (Lib.bytesCells w1 5 s) 5 ((Lib.bytesCells w1 5 s).size,(Lib.bytesCells w1 5 s).size+1))) [34] (Lib.bytesWorld w1 5 s):=
  h1.beside (Fr.of_below (Lib.bytesWorld_below _ _ _)) (Nr' _) (Lib.bytesWorld_at_new w1 5 s)
 have hcell:∀ W:World,W.heap[w1.heap.size]?=some (.cells (Lib.bytesCells w1 5 s) 5 ((Lib.bytesCells w1 5 s).size,(Lib.bytesCells w1 5 s).size+1))→∀ k (hk:k<s.size),W.cell? ⟨w1.heap.size,k,none⟩=some (.int .u8 ((s[k].toNat:Nat):Int)):=by
  intro W hW k hk;have h3:=Lib.bytesWorld_cell w1 5 s k hk;rw[Ab (Lib.bytesWorld_at_new w1 5 s)] at h3;rw[Ab hW,h3,List.getD_eq_getElem?_getD,Lg' (by simpa using hk)];rfl
 have HC:=Hz hcell;clear hcell h1 hcv
 generalize Obj.cells (Lib.bytesCells w1 5 s) 5 ((Lib.bytesCells w1 5 s).size,(Lib.bytesCells w1 5 s).size+1)=O at *
 generalize Lib.bytesWorld w1 5 s=w2 at *
 generalize w1.heap.size=R at *
 generalize w.heap.size=b at *
 go_loopw [10] (fun i wr=>∃ k:Nat,k≤s.size∧i=vI k∧BI w b (some (R,O)) (34::C9 (s.data.toList.take k)) wr) (fun i _=>s.size-(intOf i).toNat)
 case atStart=>exact⟨0,Nat.zero_le _,rfl,h2⟩
 case round =>
  obtain⟨k,hk,rfl,hb⟩:=hrel;clear h2;have hql:=Qk s k hk;by_cases hlt:k<s.size
  ·have hq1:=X8 s k hlt;rw[quo_str] at hq1;have hcell:=HC.out wr hb.at k hlt;have cl:=s[k].toNat_lt;have c0:0≤((s[k].toNat:Nat):Int):=by omega
   have c1:((s[k].toNat:Nat):Int)≤255:=by omega
   have hbk:UInt8.ofNat s[k].toNat=s[k]:=UInt8.ofNat_toNat;have HB:=Hz hbk;by_cases e1:((s[k].toNat:Nat):Int)=34
   ·rw[if_pos e1] at hq1;have HQ:=Hz hq1;have HE:Hid (s[k]=34):=Hz (UInt8.toNat_inj.1 (by have h9:(34:UInt8).toNat=34:=rfl;omega));have b1:(((s[k].toNat:Nat):Int)==34)=true:=by simpa using e1
    clear hq1 e1 hbk cl;exact qq125
   ·rw[if_neg e1] at hq1;have b1:(((s[k].toNat:Nat):Int)==34)=false:=by simpa using e1
    clear e1;by_cases e2:((s[k].toNat:Nat):Int)=92
    ·rw[if_pos e2] at hq1;have HQ:=Hz hq1;have HE:Hid (s[k]=92):=Hz (UInt8.toNat_inj.1 (by have h9:(92:UInt8).toNat=92:=rfl;omega));have b2:(((s[k].toNat:Nat):Int)==92)=true:=by simpa using e2
     clear hq1 e2 hbk cl;exact qq125
    ·rw[if_neg e2] at hq1;have b2:(((s[k].toNat:Nat):Int)==92)=false:=by simpa using e2
     clear e2;by_cases e3:((s[k].toNat:Nat):Int)=10
     ·rw[if_pos e3] at hq1;have HQ:=Hz hq1;have b3:(((s[k].toNat:Nat):Int)==10)=true:=by simpa using e3
      clear hq1 e3 hbk cl;go_wp2_with fail;refine(BI_text _ _ _ _ _ _ hb (by simp only[Lc',Ln',ByteArray.size_mk',List.size_toArray];omega)).mono ?_;exact qq196
     ·rw[if_neg e3] at hq1;have b3:(((s[k].toNat:Nat):Int)==10)=false:=by simpa using e3
      clear e3;by_cases e4:32≤((s[k].toNat:Nat):Int)∧((s[k].toNat:Nat):Int)≤126
      ·rw[if_pos e4] at hq1;have HQ:=Hz hq1;have b4:decide (32≤((s[k].toNat:Nat):Int))=true:=decide_eq_true e4.1;have b5:decide (((s[k].toNat:Nat):Int)≤126)=true:=decide_eq_true e4.2;clear hq1 e4 hbk cl;go_wp2_with fail;refine(Gl _ _ _ _ _ _ oM oM hb (by simp only[Lc'];omega)).mono ?_;exact qq196
      ·rw[if_neg e4] at hq1;have HQ:=Hz hq1
       have key:decide (32≤((s[k].toNat:Nat):Int))=false∨(decide (32≤((s[k].toNat:Nat):Int))=true∧decide (((s[k].toNat:Nat):Int)≤126)=false):=by
        by_cases h5:32≤((s[k].toNat:Nat):Int)
        ·exact .inr ⟨decide_eq_true h5,decide_eq_false (fun h=>e4 ⟨h5,h⟩)⟩
        ·exact .inl (decide_eq_false h5)
       have i1:=fun W=>It (P:=prog) underlying9 .u8 (((s[k].toNat:Nat):Int)/ 16) (s[k].toNat / 16) oM oM W
       have i2:=fun W=>It (P:=prog) underlying9 .u8 (bits .and .u8 ((s[k].toNat:Nat):Int) 15) (s[k].toNat % 16) (and15 _) oM W
       have i3:=fun W=>It (P:=prog) underlying9 .u8 (((s[k].toNat:Nat):Int) % 16) (s[k].toNat % 16) oM oM W
       have i4:=fun W=>It (P:=prog) underlying9 .u8 (((s[k].toNat % 16:Nat):Int)) (s[k].toNat % 16) rfl oM W
       have u1:=(Kz (s[k].toNat / 16)).toNat_lt;have u2:=(Kz (s[k].toNat % 16)).toNat_lt;clear hq1 e4 hbk cl
       rcases key with b4|⟨b4,b5⟩
       all_goals
        go_wp2_with fail;refine(BI_text _ _ _ _ _ _ hb (by simp only[Lc',Ln',ByteArray.size_mk',List.size_toArray];omega)).mono ?_;rintro e x1 ⟨rfl,hb1⟩;go_wp2_with fail;refine(Gl _ _ _ _ _ _ oM oM hb1 (by simp only[La',Lc',Ln'];omega)).mono ?_;rintro e x2 ⟨rfl,hb2⟩;go_wp2_with fail;refine(Gl _ _ _ _ _ _ oM oM hb2 (by simp only[La',Lc',Ln'];omega)).mono ?_;rintro e x3 ⟨rfl,hb3⟩;go_wp2_with fail
        go_roundw
        case rel=>exact⟨k+1,oM,by go_num,by rw[HQ.out];simpa using hb3⟩
        case measure=>simp[intOf];omega
  ·have hts:s.data.toList.take k=s.data.toList:=List.take_of_length_le (by rw[Bu];omega);rw[hts] at hb hql;go_wp2_with fail;refine(Gl 34 _ _ _ _ _ oM oM hb (by simp only[Lc'];omega)).mono ?_;rintro e x1 ⟨rfl,hb1⟩;go_wp2_with fail;refine(Tj _ _ _ _ _ hb1).mono ?_;rintro e x2 ⟨rfl,hf⟩;go_wp2_with fail;go_ret;exact⟨rfl,hf⟩
theorem N2:∀ (n f g:Nat)(l:LB),l.length≤n→l.length≤f→l.length≤g→Fk f l=Fk g l:=by
 intro n
 induction n with
 | zero =>
  intro f g l hn _ _
  exact qq316
 | succ n ih =>
  intro f g l hn hf hg
  match l,hn,hf,hg with
  | [],_,_,_=>cases f <;> cases g <;> rfl
  | [x],_,hf,hg =>
   cases f with
   | zero=>simp at hf
   | succ f=>cases g with
    | zero=>simp at hg
    | succ g=>rfl
  | c::d::r,hn,hf,hg =>
   cases f with
   | zero=>simp at hf
   | succ f=>cases g with
    | zero=>simp at hg
    | succ g =>
     simp only[Lc'] at hn hf hg;have e1:=ih f g (d::r) (by simp only[Lc'];omega) (by simp only[Lc'];omega) (by simp only[Lc'];omega);have e2:=ih f g r oM oM oM;have e3:=ih f g (r.drop 2) (by simp only[List.length_drop];omega) (by simp only[List.length_drop];omega) (by simp only[List.length_drop];omega);simp only[Fk,e1,e2,e3]
def Gz(s:ByteArray)(k:Nat):LB:=Fk s.size (s.data.toList.drop k)
theorem Dz(s:ByteArray)(k:Nat)(h:k<s.size):s.data.toList.drop k=s[k]::s.data.toList.drop (k+1):=by
 rw[List.drop_eq_getElem_cons (by simpa using h)];rfl
theorem rest_end(s:ByteArray)(k:Nat)(h:s.size≤k+1):Gz s k=[]:=by
 unfold Gz;by_cases hk:k<s.size
 ·rw[Dz s k hk,List.drop_of_length_le (by rw[Bu];omega)];cases s.size <;> rfl
 ·rw[List.drop_of_length_le (by rw[Bu];omega)];cases s.size <;> rfl
theorem Eq(s:ByteArray)(k:Nat):(s.data.toList.drop k).length=s.size-k:=by rw[List.length_drop,Bu]
theorem rest_step(s:ByteArray)(k:Nat)(h:k+1<s.size):Gz s k=(if s[k]≠92 then s[k]::Gz s (k+1)else if s[k+1]=110 then 10::Gz s (k+2)
  else if s[k+1]=120∧k+3<s.size then hexP (s.data.toList.getD (k+2) 0) (s.data.toList.getD (k+3) 0)::Gz s (k+4)else s[k+1]::Gz s (k+2)):=by
 obtain⟨n,hn⟩:∃ n,s.size=n+1:=⟨s.size-1,oM⟩
 have d1:=Eq s (k+1);have d2:=Eq s (k+2);have d4:=Eq s (k+4);have f1:Fk n (s.data.toList.drop (k+1))=Gz s (k+1):=N2 _ _ _ _ (Nr' _) oM oM;have f2:Fk n (s.data.toList.drop (k+2))=Gz s (k+2):=N2 _ _ _ _ (Nr' _) oM oM;have f4:Fk n (s.data.toList.drop (k+4))=Gz s (k+4):=N2 _ _ _ _ (Nr' _) oM oM;have e1:=Dz s (k+1) h;have hx:(s.data.toList.drop (k+2)).drop 2=s.data.toList.drop (k+4):=by rw[List.drop_drop]
 have g0:(s.data.toList.drop (k+2)).getD 0 0=s.data.toList.getD (k+2) 0:=by simp[List.getD_eq_getElem?_getD]
 have g1:(s.data.toList.drop (k+2)).getD 1 0=s.data.toList.getD (k+3) 0:=by simp[List.getD_eq_getElem?_getD]
 have hl:(2≤(s.data.toList.drop (k+2)).length)↔k+3<s.size:=by rw[d2];omega
 have e0:Gz s k=Fk (n+1) (s[k]::s[k+1]::s.data.toList.drop (k+2)):=by
  have hgen:∀ m,m=n+1→Fk m (s.data.toList.drop k)=Fk (n+1) (s[k]::s[k+1]::s.data.toList.drop (k+2)):=by
   intro m hm;subst hm;rw[Dz s k oM,e1]
  exact hgen _ hn
 rw[e0,Fk,← e1,f1,f2,hx,f4,g0,g1];simp only[hl]
theorem hexV_spec(c:UInt8):Lib.indexByte Zm c=L7 c:=by
 have h:∀ c:Fin 256,Lib.indexByte Zm (UInt8.ofNat c.val)=L7 (UInt8.ofNat c.val):=by decide +kernel
 exact qq302
theorem hexV_bd(c:UInt8):-1≤L7 c∧L7 c≤15:=by
 have h:∀ c:Fin 256,-1≤L7 (UInt8.ofNat c.val)∧L7 (UInt8.ofNat c.val)≤15:=by decide +kernel
 exact qq302
theorem Zn(a b:UInt8):IntKind.u8.wrap (bits .or .i64 (IntKind.i64.wrap (L7 a * 16)) (bits .and .i64 (L7 b) 15))=(((hexP a b).toNat:Nat):Int):=by
 have h:∀ i j:Fin 17,IntKind.u8.wrap (bits .or .i64 (IntKind.i64.wrap (((i.val:Int)-1)* 16)) (bits .and .i64 ((j.val:Int)-1) 15))=(((UInt8.ofNat (((((i.val:Int)-1)* 16 % 256).toNat)||| ((((j.val:Int)-1) % 16).toNat))).toNat:Nat):Int):=by decide +kernel
 have ha:=hexV_bd a;have hb:=hexV_bd b;have h2:=h ⟨(L7 a+1).toNat,oM⟩ ⟨(L7 b+1).toNat,oM⟩;have e1:(((L7 a+1).toNat:Nat):Int)-1=L7 a:=by omega
 have e2:(((L7 b+1).toNat:Nat):Int)-1=L7 b:=by omega
 simp only[e1,e2] at h2;exact h2
theorem hexP_le(a b:UInt8):(((hexP a b).toNat:Nat):Int)≤255:=by have:=(hexP a b).toNat_lt;omega
theorem getD_s(s:ByteArray)(k:Nat)(h:k<s.size):s.data.toList.getD k 0=s[k]:=by
 have h2:k<s.data.toList.length:=by rw[Bu];exact h
 rw[List.getD_eq_getElem?_getD,Lg' h2];rfl
theorem S9(c:UInt8)(w:World):Calls prog 104 #[.string ⟨#[48,49,50,51,52,53,54,55,56,57,97,98,99,100,101,102]⟩,.int .u8 ((c.toNat:Nat):Int)] w fun e w'=>e = .returned (vI (L7 c))∧w'=w:=by
 have h:=Tryz.strings_IndexByte ⟨#[48,49,50,51,52,53,54,55,56,57,97,98,99,100,101,102]⟩ ((c.toNat:Nat):Int) w
 have e:Lib.indexByte (⟨#[48,49,50,51,52,53,54,55,56,57,97,98,99,100,101,102]⟩:ByteArray).data.toList ((c.toNat:Nat):Int).toNat.toUInt8=L7 c:=by
  have h1:((c.toNat:Nat):Int).toNat.toUInt8=c:=by simp
  rw[h1];exact hexV_spec c
 rw[e] at h;exact h
theorem Wf(s:ByteArray)(hs:s.size≤16777216)(w:World):
  Calls prog 64 #[.string s] w fun e w'=>e = .returned (.tuple #[.string ⟨(V3 s.data.toList).toArray⟩,vI (V2 s.data.toList)])∧Fr [] w w':=by
 go_enter func64,ntmps64;go_wp2_with fail;have hst:=BI.start w
 generalize (w.alloc (.cells #[.pointer none,vZ] 133))=w1 at *
 generalize hbw:w.heap.size=b at *
 clear hbw;have H0:Hid ([]++Gz s 1=Gz s 1):=Hz rfl
 go_loopw [5] (fun i wr=>∃ (k:Nat) (acc:LB),1≤k∧i=vI k∧BI w b none acc wr∧acc.length+1≤k∧k≤s.size+1∧Hid (acc++Gz s k=Gz s 1)) (fun i _=>s.size-(intOf i).toNat)
 case atStart=>exact⟨1,[],oM,rfl,hst,sM,oM,H0⟩
 case round =>
  obtain⟨k,acc,hk,rfl,hb,hal,hks,HR⟩:=hrel;clear hst H0;by_cases hlt:k+1<s.size
  ·have d0:decide (((k:Nat):Int)<(s.size:Int)-1)=true:=decide_eq_true oM;have d1:(((k:Nat):Int)<(s.size:Int)-1):=by omega
   have hr1:=rest_step s k hlt;have hbk:UInt8.ofNat s[k].toNat=s[k]:=UInt8.ofNat_toNat;have HB:=Hz hbk;have cl:=s[k].toNat_lt;have c0:0≤((s[k].toNat:Nat):Int):=by omega
   have c1:((s[k].toNat:Nat):Int)≤255:=by omega
   by_cases e1:s[k]=92
   ·rw[if_neg (by simpa using e1)] at hr1;have b1:(((s[k].toNat:Nat):Int)==92)=true:=by rw[e1];rfl
    have cl:=s[k+1].toNat_lt;have g0:0≤((s[k+1].toNat:Nat):Int):=by omega
    have g1:((s[k+1].toNat:Nat):Int)≤255:=by omega
    have hb2:UInt8.ofNat s[k+1].toNat=s[k+1]:=UInt8.ofNat_toNat;have HB2:=Hz hb2;clear c0 c1 hbk;by_cases e2:s[k+1]=110
    ·rw[if_pos e2] at hr1;have b2:(((s[k+1].toNat:Nat):Int)==110)=true:=by rw[e2];rfl
     have HQ:=Hz hr1;clear hr1 hb2 cl e2 e1;go_wp2_with fail;refine(Gl _ _ _ _ _ _ oM oM hb oM).mono ?_;rintro e x1 ⟨rfl,hb1⟩;go_wp2_with fail
     go_roundw
     case rel=>exact⟨k+2,_,oM,by go_num,hb1,by simp;omega,oM,Hz (by rw[← HR.out,HQ.out];simp)⟩
     case measure=>simp[intOf];omega
    ·rw[if_neg e2] at hr1
     have b2:(((s[k+1].toNat:Nat):Int)==110)=false:=by
      rw[bN];intro h;apply e2;apply UInt8.toNat_inj.1;have h9:(110:UInt8).toNat=110:=rfl;omega
     by_cases e3:s[k+1]=120
     ·have b3:((s[k+1].toNat:Nat):Int)=120:=by rw[e3];rfl
      by_cases e4:k+3<s.size
      ·rw[if_pos ⟨e3,e4⟩] at hr1;have HQ:=Hz hr1;have b4:((k:Nat):Int)+1+2<(s.size:Int):=by omega
       obtain⟨k2,hk2⟩:∃ m:Nat,m=k+2:=⟨_,rfl⟩
       obtain⟨k3,hk3⟩:∃ m:Nat,m=k+3:=⟨_,rfl⟩
       have v2:IntKind.i64.wrap (((k:Nat):Int)+1+1)=(k2:Int):=by rw[IntKind.wrap_i64];omega
       have v3:IntKind.i64.wrap (((k:Nat):Int)+1+2)=(k3:Int):=by rw[IntKind.wrap_i64];omega
       have q2:0≤((k2:Nat):Int)∧((k2:Nat):Int)<(s.size:Int):=by omega
       have q3:0≤((k3:Nat):Int)∧((k3:Nat):Int)<(s.size:Int):=by omega
       clear hr1 hb2 cl e2 e1 e3;go_wp2_with fail
       go_region_with (first|(go_at_call 104;refine(S9 _ _).mono ?_;rintro e w' ⟨rfl,rfl⟩)| (go_at_call 103;simp only[Zn];refine(Gl _ _ _ _ _ _ (Int.natCast_nonneg _) (hexP_le _ _) (hb.fr ((Fr.refl [] _).drew)) oM).mono ?_;rintro e w' ⟨rfl,hb1⟩))
       all_goals
        go_wp2_with fail
        go_roundw
        case rel =>
         refine⟨k+4,_,oM,by go_num,hb1,by simp;omega,oM,Hz ?_⟩;rw[← HR.out,HQ.out,getD_s s (k+2) oM,getD_s s (k+3) oM];have p2:(((k:Nat):Int)+2).toNat=k+2:=by omega
         have p3:(((k:Nat):Int)+3).toNat=k+3:=by omega
         simp[p2,p3,UInt8.ofNat_toNat]
        case measure=>simp[intOf];omega
      ·rw[if_neg (fun h=>e4 h.2)] at hr1;have HQ:=Hz hr1;have HE:=Hz e3;have b4:¬ ((k:Nat):Int)+1+2<(s.size:Int):=by omega
       clear hr1 hb2 cl e2 e1 e3;go_wp2_with fail;refine(Gl _ _ _ _ _ _ oM oM hb oM).mono ?_;rintro e x1 ⟨rfl,hb1⟩;go_wp2_with fail
       go_roundw
       case rel=>exact⟨k+2,_,oM,by go_num,hb1,by simp;omega,oM,Hz (by rw[← HR.out,HQ.out];simp[HE.out])⟩
       case measure=>simp[intOf];omega
     ·rw[if_neg (fun h=>e3 h.1)] at hr1;have HQ:=Hz hr1
      have b3:¬ ((s[k+1].toNat:Nat):Int)=120:=by
       intro h;apply e3;apply UInt8.toNat_inj.1;have h9:(120:UInt8).toNat=120:=rfl;omega
      clear hr1 hb2 cl e2 e1 e3;go_wp2_with fail;refine(Gl _ _ _ _ _ _ oM oM hb oM).mono ?_;rintro e x1 ⟨rfl,hb1⟩;go_wp2_with fail
      go_roundw
      case rel=>exact⟨k+2,_,oM,by go_num,hb1,by simp;omega,oM,Hz (by rw[← HR.out,HQ.out];simp[HB2.out])⟩
      case measure=>simp[intOf];omega
   ·rw[if_pos (by simpa using e1)] at hr1;have HQ:=Hz hr1
    have b1:(((s[k].toNat:Nat):Int)==92)=false:=by
     rw[bN];intro h;apply e1;apply UInt8.toNat_inj.1;have h9:(92:UInt8).toNat=92:=rfl;omega
    clear hr1 hbk cl e1;go_wp2_with fail;refine(Gl _ _ _ _ _ _ oM oM hb oM).mono ?_;rintro e x1 ⟨rfl,hb1⟩;go_wp2_with fail
    go_roundw
    case rel=>exact⟨k+1,_,oM,by go_num,hb1,by simp;omega,oM,Hz (by rw[← HR.out,HQ.out];simp[HB.out])⟩
    case measure=>simp[intOf];omega
  ·have d0:decide (((k:Nat):Int)<(s.size:Int)-1)=false:=decide_eq_false oM;have d1:¬ (((k:Nat):Int)<(s.size:Int)-1):=by omega
   have hacc:=HR.out;rw[rest_end s k oM,List.append_nil] at hacc;have HA:=Hz hacc;clear HR hacc;go_wp2_with fail;refine(Tj _ _ _ _ _ hb).mono ?_;rintro e x1 ⟨rfl,hf⟩;have hql:=N8 acc;go_wp2_with fail;have hq:Dr acc=s.data.toList∨¬ Dr acc=s.data.toList:=Classical.em _;refine(O9 ⟨acc.toArray⟩ (by simp only[ByteArray.size_mk',List.size_toArray];omega) _).mono ?_;rintro e x2 ⟨rfl,hf2⟩;have hr:Fk s.data.toList.length (s.data.toList.drop 1)=acc:=by rw[HA.out,Gz,Bu]
   rcases hq with hq|hq
   ·have hq1:(Dr acc==s.toList)=true:=by rw[ByteArray.toList_eq];simpa using hq
    have hu:unq s.data.toList=some acc:=by unfold unq;rw[hr,if_pos hq]
    have HT:=Hz (show V3 s.data.toList=acc by unfold V3;rw[hu];rfl);have HE:=Hz (show V2 s.data.toList=0 by unfold V2;rw[hu];rfl);exact qq306
   ·have hq1:(Dr acc==s.toList)=false:=by rw[ByteArray.toList_eq];simpa using hq
    have hu:unq s.data.toList=none:=by unfold unq;rw[hr,if_neg hq]
    have HT:=Hz (show V3 s.data.toList=[] by unfold V3;rw[hu];rfl);have HE:=Hz (show V2 s.data.toList=5 by unfold V2;rw[hu];rfl);exact qq306
def U0(s:LB)(acc t:LB):Prop:=∀ l,Dr l=s↔∃ m,l=acc++m∧C9 m=t
theorem U0.start(t:LB):U0 (34::(t++[34])) [] t:=by
 intro l;simp only[Dr,List.cons.injEq,true_and,List.append_cancel_right_eq,List.nil_append];exact⟨fun h=>⟨l,rfl,h⟩,fun⟨_,e,h⟩=>e ▸ h⟩
theorem U0.step{s acc t:LB}{c:UInt8}(h:U0 s acc (quo c++t)):U0 s (acc++[c]) t:=by
 intro l;rw[h l];constructor
 ·rintro⟨m,rfl,hm⟩
  cases m with
  | nil=>have:=quo_ne c;simp[C9] at hm;exact absurd hm.1 this
  | cons d m =>
   simp only[C9,List.flatMap_cons] at hm;obtain⟨rfl,h2⟩:=quo_split hm;exact⟨m,sM,h2⟩
 ·rintro⟨m,rfl,hm⟩;exact⟨c::m,sM,by simp only[C9,List.flatMap_cons] at hm ⊢;rw[hm]⟩
theorem U0.end{s acc:LB}(h:U0 s acc []):unq s=some acc:=by
 rw[unq_iff,h acc];exact⟨[],sM,rfl⟩
theorem U0.none{s acc t:LB}(h:U0 s acc t)(ht:t≠[])(hn:∀ c:UInt8,¬ quo c <+: t):unq s=none:=by
 cases e:unq s with
 | none=>rfl
 | some l =>
  obtain⟨m,_,hm⟩:=(h l).1 (O7 e)
  cases m with
  | nil=>exact absurd hm.symm ht
  | cons d m=>exact absurd ⟨C9 m,by rw[← hm];rfl⟩ (hn d)
theorem unq_n{s:LB}(h:unq s=none):V3 s=[]∧V2 s=5:=by unfold V3 V2;rw[h];exact⟨rfl,rfl⟩
theorem unq_s{s l:LB}(h:unq s=some l):V3 s=l∧V2 s=0:=by unfold V3 V2;rw[h];exact⟨rfl,rfl⟩
theorem Y7.none(w:World):Y7 w.heap.size (.slice (some ⟨w.heap.size,0,none⟩) 0 0) [] (w.alloc (.cells #[] 5)):=
 ⟨World.ownsRow_lit w #[] 0 (Nat.zero_le _) dC rfl,fun g hg=>by simp[Value.ownBlock] at hg;omega⟩
theorem ext_list(t:ByteArray)(n:Nat):(t.extract 0 n).toList=t.data.toList.take n:=by
 rw[ByteArray.toList_eq];simp
theorem pfx_iff(t:ByteArray)(q:LB):q <+: t.data.toList↔q.length≤t.size∧((t.extract 0 q.length).toList==q)=true:=by
 rw[ext_list,beq_iff_eq];constructor
 ·intro h;refine⟨by have:=h.length_le;rwa [Bu] at this,?_⟩;exact(List.prefix_iff_eq_take.1 h).symm
 ·rintro⟨_,h⟩;rw[← h];exact List.take_prefix _ _
def Jk(x:Int):Bool:=(decide (97≤x)&&decide (x≤122))||x==95
def Jf(x:Int):Bool:=decide (65≤x)&&decide (x≤90)
def Lq(x:Int):Bool:=decide (48≤x)&&decide (x≤57)
theorem Cq(x:Int)(w:World):Calls prog 57 #[.int .i32 x] w fun e w'=>e = .returned (.bool (Jk x))∧w=w':=by
 go_enter func57,ntmps57;go_wp2_with fail
 all_goals go_ret
 all_goals exact⟨Si (by rw[Bool.eq_iff_iff];simp[Jk];omega),rfl⟩
theorem Da(x:Int)(w:World):Calls prog 60 #[.int .i32 x] w fun e w'=>e = .returned (.bool (Jf x))∧w=w':=by
 go_enter func60,ntmps60;go_wp2_with fail
 all_goals go_ret
 all_goals exact⟨Si (by rw[Bool.eq_iff_iff];simp[Jf];omega),rfl⟩
theorem Ei(x:Int)(w:World):Calls prog 61 #[.int .i32 x] w fun e w'=>e = .returned (.bool (Lq x))∧w=w':=by
 go_enter func61,ntmps61;go_wp2_with fail
 all_goals go_ret
 all_goals exact⟨Si (by rw[Bool.eq_iff_iff];simp[Lq];omega),rfl⟩
theorem Dl(c:UInt8):Jk ((c.toNat:Nat):Int)=Ef c:=by
 have h:∀ c:Fin 256,Jk (((UInt8.ofNat c.val).toNat:Nat):Int)=Ef (UInt8.ofNat c.val):=by decide +kernel
 simpa using h ⟨c.toNat,c.toNat_lt⟩
theorem Dk(c:UInt8):Jf ((c.toNat:Nat):Int)=C8 c:=by
 have h:∀ c:Fin 256,Jf (((UInt8.ofNat c.val).toNat:Nat):Int)=C8 (UInt8.ofNat c.val):=by decide +kernel
 simpa using h ⟨c.toNat,c.toNat_lt⟩
theorem Fw(c:UInt8):Lq ((c.toNat:Nat):Int)=De c:=by
 have h:∀ c:Fin 256,Lq (((UInt8.ofNat c.val).toNat:Nat):Int)=De (UInt8.ofNat c.val):=by decide +kernel
 simpa using h ⟨c.toNat,c.toNat_lt⟩
theorem Of(x:Int)(h:128≤x):Jk x=false∧Jf x=false∧Lq x=false:=by
 refine⟨?_,?_,?_⟩
 ·rw[Bool.eq_false_iff];intro e;simp[Jk] at e;omega
 ·rw[Bool.eq_false_iff];intro e;simp[Jf] at e;omega
 ·rw[Bool.eq_false_iff];intro e;simp[Lq] at e;omega
theorem body_high(c:UInt8)(h:128≤c.toNat):Dh c=false:=by
 obtain⟨h1,h2,h3⟩:=Of ((c.toNat:Nat):Int) oM;rw[Dl] at h1;rw[Dk] at h2;rw[Fw] at h3;simp[Dh,h1,h2,h3]
theorem runL_at(s:ByteArray)(k:Nat)(hk:k≤s.size)(h:∀ j (hj:j<k),Dh (s[j]'(by omega))=true)(he:k=s.size∨∃ hk2:k<s.size,Dh s[k]=false):
  Cy s.data.toList=s.data.toList.take k:=by
 unfold Cy;have hs:s.data.toList=s.data.toList.take k++s.data.toList.drop k:=(List.take_append_drop k _).symm
 conv=>lhs;rw[hs]
 rw[List.takeWhile_append_of_pos]
 ·rcases he with rfl|⟨hk2,hb⟩
  ·rw[List.drop_of_length_le (by rw[Bu];exact Nr' _)];simp
  ·rw[Dz s k hk2,List.takeWhile_cons_of_neg (by simp[hb])];simp
 ·intro a ha;obtain⟨j,hj,rfl⟩:=List.getElem_of_mem ha;simp only[List.length_take] at hj;have:=h j oM;rw[List.getElem_take];exact this
theorem Rm(s:ByteArray)(k:Nat):s.extract 0 k=⟨(s.data.toList.take k).toArray⟩:=by
 apply ByteArray.ext;apply Array.ext';simp
theorem nn527(h:p:=by
 refine(Ei _ _).mono ?_;rintro e x1 ⟨rfl,rfl⟩;go_wp2_with fail;go_ret;exact⟨by rw[← HR.out];rfl,hfb⟩):p:=h
theorem nn528(h:p:=by
 refine(Ei _ _).mono ?_;rintro e x1 ⟨rfl,rfl⟩;go_wp2_with fail;exact qq170):p:=h
theorem nn529(h:p:=by
 exact qq170):p:=h
theorem Nb(s:ByteArray)(hs:s.size≤140737488355328)(w:World):
  Calls prog 58 #[.string s] w fun e w'=>e = .returned (.string ⟨(Cy s.data.toList).toArray⟩)∧Fr [] w w':=by
 go_enter func58,ntmps58;go_wp2_with fail;have hit0:(w.iter s 0).heap[w.heap.size]?=some (.stringIter s 0):=World.iter_heap w s 0;have hf0:Fr [] w (w.iter s 0):=(Fr.refl [] w).alloc (.stringIter s 0)
 generalize w.iter s 0=w1 at *
 have hB:w.heap.size≤w.heap.size:=Nr' _;generalize hb0:w.heap.size=B at hit0 hB ⊢
 go_loopw [] (fun wr=>∃ pos:Nat,wr.heap[B]?=some (.stringIter s pos)∧pos≤s.size∧Fr [] w wr∧Hid (∀ j (hj:j<pos) (hj2:j<s.size),Dh s[j]=true)) (fun wr=>s.size-wr.iterPos B)
 case atStart=>exact⟨0,hit0,oM,hf0,Hz (fun j hj _=>absurd hj oM)⟩
 case round =>
  obtain⟨pos,hit,hps,hf,HA⟩:=hrel;clear hit0 hf0;by_cases hp:pos<s.size
  ·have hnx:∀ ty,(Instr.next (.pointer (some ⟨B,0,none⟩)) true ty).run prog wr=_:=fun ty=>Lib.run_next_any_at wr B s pos ty hit hp
   have hit2:=Lib.iterAt_heap wr B s pos (pos+(Utf8.decode s pos).2) hit;have hfb:Fr [] w (wr.iterAt B s (pos+(Utf8.decode s pos).2)):=Fr.of_below (Lib.below_iterAt hf.below0 (k:=B) oM s _);by_cases hbd:Dh s[pos]=true
   ·have hlo:s[pos].toNat<128:=by
     rcases Nat.lt_or_ge s[pos].toNat 128 with h|h
     ·exact h
     ·rw[body_high _ h] at hbd;cases hbd
    have hd:=decode_ascii s pos hp hlo;rw[hd] at hnx hit2 hfb
    have HA2:Hid (∀ j (hj:j<pos+1) (hj2:j<s.size),Dh s[j]=true):=Hz (fun j hj hj2=>by
     rcases Nat.lt_or_ge j pos with h|h
     ·exact HA.out j h hj2
     ·have:j=pos:=by omega
      subst this;exact hbd)
    have key:Jk ((s[pos].toNat:Nat):Int)=true∨(Jk ((s[pos].toNat:Nat):Int)=false∧(Jf ((s[pos].toNat:Nat):Int)=true∨(Jf ((s[pos].toNat:Nat):Int)=false∧Lq ((s[pos].toNat:Nat):Int)=true))):=by
     rw[Dl,Dk,Fw];unfold Dh at hbd;cases h1:Ef s[pos] <;> cases h2:C8 s[pos] <;> simp_all
    clear hbd hd hlo
    rcases key with e1|⟨e1,e2|⟨e2,e3⟩⟩
    ·go_wp2_with fail;refine(Cq _ _).mono ?_;rintro e x1 ⟨rfl,rfl⟩;go_wp2_with fail;exact qq170
    ·have kqq266:=@Hz _ @nn529;exact qq266
    ·have kqq266:=@Hz _ @nn528;exact qq266
   ·have hr:=runL_at s pos hps (fun j hj=>HA.out j hj oM) (.inr ⟨hp,by simpa using hbd⟩);have HR:=Hz (show s.extract 0 pos=⟨(Cy s.data.toList).toArray⟩ by rw[hr];exact Rm s pos)
    obtain⟨e1,e2,e3⟩:Jk ((Utf8.decode s pos).1:Int)=false∧Jf ((Utf8.decode s pos).1:Int)=false∧Lq ((Utf8.decode s pos).1:Int)=false:=by
     rcases Nat.lt_or_ge s[pos].toNat 128 with h|h
     ·rw[decode_ascii s pos hp h,Dl,Dk,Fw];unfold Dh at hbd;cases h1:Ef s[pos] <;> cases h2:C8 s[pos] <;> simp_all
     ·have:=(decode_high s pos hp h).1;exact Of _ oM
    have q1:0≤(pos:Int)∧(pos:Int)≤(s.size:Int):=by omega
    clear hbd hr;have kqq266:=@Hz _ @nn527;exact qq266
  ·have hnx:∀ ty,(Instr.next (.pointer (some ⟨B,0,none⟩)) true ty).run prog wr=_:=fun ty=>Lib.run_next_end_at wr B s pos ty hit hp
   have hpe:pos=s.size:=by omega
   subst hpe;have hr:=runL_at s s.size (Nr' _) (fun j hj=>HA.out j hj hj) (.inl rfl);rw[List.take_of_length_le (by rw[Bu];exact Nr' _)] at hr;have HR:=Hz hr;clear hr;go_wp2_with fail;go_ret;exact⟨by rw[HR.out];rfl,hf⟩
theorem nMax:0<prog.globals.size:=of_decide_eq_true kR
structure E1 (w:World):Prop where
 env:Env w
 max:∃ m,w.cell? ⟨0,0,none⟩=some (vI m)
theorem E1.fr{w w':World}(h:E1 w)(hb:Fr [] w w'):E1 w':=by
 obtain⟨he,m,hm⟩:=h;refine⟨he.fr hb,m,?_⟩;rw[hb.cell (p:=⟨0,0,none⟩) (Nl' nMax he.size) (fun h=>by cases h)];exact hm
theorem U6(s sub:LB):Lib.contains s sub=true↔sub <:+: s:=by
 unfold Lib.contains;rw[decide_eq_true_eq]
 induction s with
 | nil =>
  unfold Lib.index
  cases sub with
  | nil=>simp
  | cons a r=>simp
 | cons b l ih =>
  rw[Lib.index];by_cases hp:sub.isPrefixOf (b::l)=true
  ·rw[if_pos hp];exact⟨fun _=>(List.isPrefixOf_iff_prefix.1 hp).isInfix,fun _=>by omega⟩
  ·rw[if_neg hp]
   have hge:∀ l:LB,-1≤Lib.index l sub:=by
    intro l
    induction l with
    | nil=>unfold Lib.index;split <;> omega
    | cons c r ih2 =>
     rw[Lib.index];split
     ·omega
     ·split
      ·omega
      ·omega
   have:=hge l;by_cases h1:Lib.index l sub = -1
   ·rw[h1] at ih ⊢;simp only[beq_self_eq_true,if_true];constructor
    ·intro h;omega
    ·intro h;rcases List.infix_cons_iff.1 h with h|h
     ·exact absurd (List.isPrefixOf_iff_prefix.2 h) hp
     ·have:=ih.2 h;omega
   ·have h2:(Lib.index l sub == -1)=false:=by rw[bN];exact h1
    rw[h2];simp only[Bool.false_eq_true,if_false];constructor
    ·intro _;exact(ih.1 oM).trans (List.suffix_cons b l).isInfix
    ·intro _;omega
theorem Zo(s:LB)(c:UInt8):decide (0≤Lib.indexByte s c)=s.contains c:=by
 rw[Bool.eq_iff_iff,decide_eq_true_eq,List.contains_iff_mem];have hge:=Lib.indexByte_ge s c;constructor
 ·intro h
  obtain⟨o,ho⟩:∃ o:Nat,Lib.indexByte s c=o:=⟨(Lib.indexByte s c).toNat,oM⟩
  exact List.mem_of_getElem? (Lib.indexByte_some ho).1
 ·intro h;rcases Int.lt_or_le (Lib.indexByte s c) 0 with h1|h1
  ·obtain⟨k,hk⟩:=List.mem_iff_getElem?.1 h;exact absurd hk (Lib.indexByte_none oM k)
  ·exact h1
theorem Ma(s:ByteArray)(w:World):Calls prog 100 #[.string s,.string ⟨#[32]⟩] w fun e w'=>e = .returned (.bool (s.data.toList.contains 32))∧w'=w:=by
 have h:=Tryz.strings_Contains_one s 32 w;rw[Zo] at h;exact h
theorem Qx(s:ByteArray)(w:World)(hE:E1 w)(h0:s.data.toList≠[])(hb:(32:UInt8) ∉ s.data.toList)(W:ByteArray)(hW:W.data.toList=Is)(sub:ByteArray)(hsub:sub.data.toList=[32]++s.data.toList++[32]):
  Calls prog 100 #[.string W,.string sub] w fun e w'=>e = .returned (.bool (D8 s.data.toList))∧w'=w:=by
 obtain⟨_,m,hm⟩:=hE;have h:=Tryz.strings_Contains W sub m w (by rw[← Bu,hW];decide) hm
 have e:Lib.contains W.data.toList sub.data.toList=D8 s.data.toList:=by
  rw[Bool.eq_iff_iff,U6,Zr _ h0 hb,hW,hsub]
 rw[e] at h;exact h
theorem Zs:D8 []=false:=by decide
theorem Vb{s:LB}(h:(32:UInt8) ∈ s):D8 s=false:=by
 rw[Bool.eq_false_iff];intro hw;exact(Y2 s (by simpa [D8] using hw)).2 h
theorem nn383(h:p:=by
 by_cases hb:(32:UInt8) ∈ s.data.toList
 ·have c1:=Hz (Ma s w);have e2:s.data.toList.contains 32=true:=List.contains_iff_mem.2 hb;rw[Vb hb];go_enter func59,ntmps59;go_wp2_with fail;refine c1.out.mono ?_;rintro e x1 ⟨rfl,rfl⟩;go_wp2_with fail;go_ret;exact qq181
 ·have c1:=Hz (Ma s w);have e2:s.data.toList.contains 32=false:=by rw[Bool.eq_false_iff];intro h;exact hb (List.contains_iff_mem.1 h)
  have c2:=fun W hW sub hsub=>Hz (Qx s w hE h0 hb W hW sub hsub)
  go_enter func59,ntmps59;go_wp2_with fail;refine c1.out.mono ?_;rintro e x1 ⟨rfl,rfl⟩;go_wp2_with fail;refine(c2 _ dC _ sM).out.mono ?_;rintro e x1 ⟨rfl,rfl⟩;go_wp2_with fail;go_ret;exact qq181):p:=h
theorem Qy(s:ByteArray)(hs:s.size≤1000000)(w:World)(hE:E1 w):
  Calls prog 59 #[.string s] w fun e w'=>e = .returned (.bool (D8 s.data.toList))∧Fr [] w w':=by
 by_cases h0:s.data.toList=[]
 ·have e0:s.toList.isEmpty=true:=by rw[ByteArray.toList_eq,h0];rfl
  have e1:s.toList=[]:=by rw[ByteArray.toList_eq,h0]
  rw[h0,Zs];go_enter func59,ntmps59;exact qq270
 ·have kqq178:=@Hz _ @nn383;exact qq178
def Jq(s:ByteArray)(i:Nat):Option Nat:=(Hx (s.data.toList.drop i)).map (·+i)
theorem qrest_end(s:ByteArray)(i:Nat)(h:s.size≤i):Jq s i=none:=by
 unfold Jq;rw[List.drop_of_length_le (by rw[Bu];exact h)];rfl
theorem X4(s:ByteArray)(i:Nat)(h:i<s.size)(hc:s[i]=34):Jq s i=some (i+1):=by
 unfold Jq;rw[Dz s i h,hc,X2];simp[Nat.add_comm]
theorem X3(s:ByteArray)(i:Nat)(h:i<s.size)(h1:s[i]≠92)(h2:s[i]≠34):Jq s i=Jq s (i+1):=by
 unfold Jq;rw[Dz s i h,Lz _ _ h1 h2]
 cases Hx (s.data.toList.drop (i+1))with
 | none=>rfl
 | some k=>simp;omega
theorem qrest_esc(s:ByteArray)(i:Nat)(h:i<s.size)(hc:s[i]=92):Jq s i=Jq s (i+2):=by
 unfold Jq;rw[Dz s i h,hc];by_cases h2:i+1<s.size
 ·rw[Dz s (i+1) h2,Mk]
  cases Hx (s.data.toList.drop (i+1+1))with
  | none=>rfl
  | some k=>simp;omega
 ·rw[List.drop_of_length_le (by rw[Bu];omega),List.drop_of_length_le (by rw[Bu];omega),qlen_one];rfl
def Vn(l:LB):Option LB:=(Hx (l.drop 1)).map fun k=>l.take (1+k)
theorem quoted_any(s:ByteArray)(hs:s.size≤1000000)(w:World):
  Calls prog 63 #[.string s] w fun e w'=>e = .returned (.tuple #[.string ⟨((Vn s.data.toList).getD []).toArray⟩,.bool (Vn s.data.toList).isSome])∧w=w':=by
 have e0:Vn s.data.toList=(Jq s 1).map fun k=>s.data.toList.take k:=by
  unfold Vn Jq
  cases Hx (s.data.toList.drop 1)with
  | none=>rfl
  | some k=>simp[Nat.add_comm]
 rw[e0];clear e0;have HQ:Hid (Jq s 1=Jq s 1):=Hz rfl;generalize hg:Jq s 1=Q at HQ ⊢;have HG:=Hz hg;clear hg;go_enter func63,ntmps63;go_wp2_with fail
 go_loop [4] (fun i=>∃ k:Nat,i=vI k∧k≤s.size+2∧Hid (Jq s k=Q)) (fun i=>s.size-(intOf i).toNat)
 case atStart=>exact⟨1,rfl,oM,HG⟩
 case round =>
  obtain⟨k,rfl,hk,HK⟩:=hrel;clear HG HQ;by_cases hlt:k<s.size
  ·by_cases h1:s[k]=92
   ·have HK2:=Hz ((qrest_esc s k hlt h1).symm.trans HK.out);have b1:(((s[k].toNat:Nat):Int)==92)=true:=by rw[h1];rfl
    clear h1;go_wp2_with fail
    go_round
    case rel=>exact⟨k+2,by go_num,oM,HK2⟩
    case measure=>simp[intOf];omega
   ·have b1:(((s[k].toNat:Nat):Int)==92)=false:=by
     rw[bN];intro h;apply h1;apply UInt8.toNat_inj.1;have h9:(92:UInt8).toNat=92:=rfl;omega
    by_cases h2:s[k]=34
    ·have hq:=(X4 s k hlt h2).symm.trans HK.out;subst hq;have b2:(((s[k].toNat:Nat):Int)==34)=true:=by rw[h2];rfl
     have q1:0≤(k:Int)+1∧(k:Int)+1≤(s.size:Int):=by omega
     clear h1 h2 HK;go_wp2_with fail;go_ret2;exact⟨by rw[← Rm];rfl,rfl⟩
    ·have b2:(((s[k].toNat:Nat):Int)==34)=false:=by
      rw[bN];intro h;apply h2;apply UInt8.toNat_inj.1;have h9:(34:UInt8).toNat=34:=rfl;omega
     have HK2:=Hz ((X3 s k hlt h1 h2).symm.trans HK.out);clear h1 h2;go_wp2_with fail
     go_round
     case rel=>exact⟨k+1,by go_num,oM,HK2⟩
     case measure=>simp[intOf];omega
  ·have hq:=(qrest_end s k oM).symm.trans HK.out;subst hq;go_wp2_with fail;go_ret2;exact qq288
theorem Nt(p:UInt8→Bool):∀ l:LB,l.takeWhile p=l↔l.all p=true
 | []=>by simp
 | c::r=>by
  by_cases h:p c=true
  ·rw[List.takeWhile_cons_of_pos h,List.all_cons,h,Bool.true_and,← Nt p r];simp
  ·rw[List.takeWhile_cons_of_neg h,List.all_cons];simp[h]
theorem nn382(h:p:=by
 have hp:0<s.size:=by rw[← Bu];exact List.length_pos_iff.2 h0
 have hd:Aw s.data.toList=(Ef s[0]&&s.data.toList.all Dh && !D8 s.data.toList):=by
  exact qq291
 have hrun:(Cy s.data.toList==s.toList)=s.data.toList.all Dh:=by
  rw[ByteArray.toList_eq,Bool.eq_iff_iff,beq_iff_eq];exact Nt Dh _
 have kqq256:=@Hz _ @nn509;exact qq256):p:=h
theorem nn509(h:p:=by
 rw[hd];clear hd;have hsm:=Dl s[0]
 cases hb1:Ef s[0] with
 | false =>
  rw[hb1] at hsm;go_enter func82,ntmps82;go_wp2_with fail;refine(Cq _ _).mono ?_;rintro e x1 ⟨rfl,rfl⟩;go_wp2_with fail;go_ret
  exact qq181
 | true =>
  rw[hb1] at hsm
  cases hb2:s.data.toList.all Dh with
  | false =>
   rw[hb2] at hrun;go_enter func82,ntmps82;go_wp2_with fail;refine(Cq _ _).mono ?_;rintro e x1 ⟨rfl,rfl⟩;go_wp2_with fail;refine(Nb s oM _).mono ?_;rintro e x1 ⟨rfl,h1⟩;go_wp2_with fail;go_ret
   exact⟨rfl,h1⟩
  | true =>
   rw[hb2] at hrun;go_enter func82,ntmps82;go_wp2_with fail;refine(Cq _ _).mono ?_;rintro e x1 ⟨rfl,rfl⟩;go_wp2_with fail;refine(Nb s oM _).mono ?_;rintro e x1 ⟨rfl,h1⟩;go_wp2_with fail;refine(Qy s hs _ (hE.fr h1)).mono ?_;rintro e x2 ⟨rfl,h2⟩;go_wp2_with fail;go_ret;exact⟨rfl,h1.trans h2⟩):p:=h
theorem Fx(s:ByteArray)(hs:s.size≤1000000)(w:World)(hE:E1 w):
  Calls prog 82 #[.string s] w fun e w'=>e = .returned (.bool (Aw s.data.toList))∧Fr [] w w':=by
 by_cases h0:s.data.toList=[]
 ·have e0:s.toList.isEmpty=true:=by rw[ByteArray.toList_eq,h0];rfl
  have e1:s.toList=[]:=by rw[ByteArray.toList_eq,h0]
  rw[h0];go_enter func82,ntmps82;exact qq270
 ·have kqq178:=@Hz _ @nn382;exact qq178
end Go.Proofs.YtlafbbnikgcdlaaGreatDoor
