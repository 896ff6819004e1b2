/- A part of the proof: Ap, W6, W9, L1, L3, L4, Qa, Op, Hl, Xl, Za, Hq. -/
import Derived.Lib.AppendStr
import Derived.Lib.Builder
import Derived.Lib.Bytes
import Derived.Test.YtabhpdhajajoiaaGreatDoorRows
import Derived.Test.YtabhpdhajajoiaaGreatDoorShelf
import Derived.Laws.BytesString
import Derived.Laws.BytesArg
import Derived.Lib.ItoaLen
import Derived.Lib.OthersKept
import Derived.SizedLaws
import Derived.Carry
import Derived.Deep.Slices
import Derived.ChangeArms
import Derived.KernelRfl
import Derived.BigQuiet
import Derived.Deep.DrawnRows
import Derived.Deep.RegionHeld3
import Derived.Test.YtabhpdhajajoiaaGreatDoorEb25
namespace Go.Proofs.YtabhpdhajajoiaaGreatDoor
open Go.RowKit
open _root_.Go.Proofs.Tryz
set_option linter.all false
set_option maxHeartbeats 16000000
set_option maxRecDepth 100000
open List renaming length_cons→Lc',length_append→La',getElem?_eq_getElem→Lg',cons_append→Lp'
open Nat renaming lt_of_lt_of_le→Nl',le_refl→Nr'
open Bool renaming and_eq_true→Ba'
section
variable {P:Program} {src dst e:TypeId} (hs:P.underlying src=some (.slice e)) (he:P.underlying e=some (.int .u8)) (hd:P.underlying dst=some .string)
include hs he hd
theorem run_bytes_one(w:World)(x:Int)(t:TypeId):(convert src dst (.slice (some ⟨w.heap.size,0,none⟩) 1 1)).run P (w.alloc (.cells #[.int .u8 x] t))= .ok (.string ⟨[UInt8.ofNat x.toNat].toArray⟩) (w.alloc (.cells #[.int .u8 x] t)):=by
 refine run_convert_bytes_arg _ src e hs he w.heap.size 0 1 1 [x] rfl (fun i hi=>?_) dst hd;have:i=0:=by omega
 subst this;rw[Ae (Ad w _)];rfl
theorem run_bytes_two(w:World)(x y:Int)(t:TypeId):(convert src dst (.slice (some ⟨w.heap.size,0,none⟩) 2 2)).run P (w.alloc (.cells #[.int .u8 x,.int .u8 y] t))= .ok (.string ⟨[UInt8.ofNat x.toNat,UInt8.ofNat y.toNat].toArray⟩) (w.alloc (.cells #[.int .u8 x,.int .u8 y] t)):=by
 refine run_convert_bytes_arg _ src e hs he w.heap.size 0 2 2 [x,y] rfl (fun i hi=>?_) dst hd;have h:i=0∨i=1:=by omega
 rcases h with rfl|rfl
 ·rw[Ae (Ad w _)];rfl
 ·rw[Ae (Ad w _)];rfl
theorem run_bytes_own(w:World)(E:TypeId)(v:Value)(l:LB)(h:w.ownsRow 0 E 1 v l.length (Lib.byteCells l)):(convert src dst v).run P w = .ok (vS l) w:=by
 rcases h.2 with⟨rfl,h0⟩| ⟨g,cap,cur,rfl,_⟩
 ·have hl:l=[]:=List.eq_nil_of_length_eq_zero h0;subst hl;exact run_convert_bytes_nil w src e hs he 0 0 dst hd
 ·exact run_convert_bytes_back w src dst e ⟨g,0,none⟩ cap l hs he hd (fun j hj=>h.cells (g:=g) rfl j _ (by simp[Lib.byteCells,hj]))
end
theorem itoa_pos{n:Int}(h:10≤n):Lib.itoa n=Lib.itoa (n / 10)++Lib.itoa (n % 10):=by
 unfold Lib.itoa;rw[if_neg (by omega),if_neg (by omega),if_neg (by omega)];have e:(n / 10).toNat=n.toNat / 10:=by omega
 have e2:(n % 10).toNat=n.toNat % 10:=by omega
 rw[Lib.decDigits,dif_neg (by omega),e,e2,Lib.decDigits.eq_1 (n.toNat % 10),dif_pos (by omega)]
theorem itoa_neg{n:Int}(h:n≤-10):Lib.itoa n=Lib.itoa (n.tdiv 10)++Lib.itoa (-(n.tmod 10)):=by
 have e0:n.tdiv 10 = -((-n)/ 10):=by
  rw[← Int.neg_neg n,Int.neg_tdiv,Int.tdiv_eq_ediv_of_nonneg (by omega),Int.neg_neg]
 have e1:n.tmod 10 = -((-n) % 10):=by
  rw[← Int.neg_neg n,Int.neg_tmod,Int.tmod_eq_emod_of_nonneg (by omega),Int.neg_neg]
 rw[e0,e1,Int.neg_neg];unfold Lib.itoa;rw[if_pos (by omega),if_pos (by omega),if_neg (by omega)];have e:(-(-n / 10)).natAbs=n.natAbs / 10:=by omega
 have e2:(-n % 10).toNat=n.natAbs % 10:=by omega
 rw[Lib.decDigits,dif_neg (by omega),e,e2,Lib.decDigits.eq_1 (n.natAbs % 10),dif_pos (by omega),Lp']
theorem itoa_digit{n:Int}(h0:0≤n)(h1:n<10):Lib.itoa n=[UInt8.ofNat (48+n.toNat)]:=by
 unfold Lib.itoa;rw[if_neg (by omega),Lib.decDigits,dif_pos (by omega)]
theorem itoa_minus{n:Int}(h0:n<0):Lib.itoa n=45::Lib.itoa (-n):=by
 unfold Lib.itoa;rw[if_pos h0,if_neg (by omega)];have e:(-n).toNat=n.natAbs:=by omega
 rw[e]
def RTextOk(n:Int):Prop:=∀ w:World,Calls prog 67 #[vI n] w fun e w'=>e = .returned (.string ⟨(Lib.itoa n).toArray⟩)∧Fr [] w w'
theorem RText_digit(n:Int)(h0:0≤n)(h1:n<10):RTextOk n:=by
 intro w;rw[itoa_digit h0 h1];have e:(48+n).toNat=48+n.toNat:=by omega
 have hc:=run_bytes_one underlying110 underlying5 underlying9 w (48+n) 5;rw[e] at hc;have d1:decide (0≤n)=true:=decide_eq_true h0;have d2:decide (n<10)=true:=decide_eq_true h1;clear e;go_enter func67,ntmps67;go_wp2_with fail;go_ret;exact⟨by simp,(Fr.refl [] w).alloc _⟩
theorem RText_minus(n:Int)(h0:n<0)(h1:-10<n):RTextOk n:=by
 intro w;have hd:=Hz (RText_digit (-n) (by omega) (by omega) w);have hl:=Lib.itoa_length_le (-n) (by omega) (by omega);rw[itoa_minus h0]
 generalize Lib.itoa (-n)=l at *
 have d1:decide (0≤n)=false:=decide_eq_false (by omega);have d2:decide (n<0)=true:=decide_eq_true h0;have d3:decide (-10<n)=true:=decide_eq_true h1;go_enter func67,ntmps67;go_wp2_with fail;refine hd.out.mono ?_;rintro e w1 ⟨rfl,hf⟩;go_wp2_with fail;go_ret;exact⟨by simp[ByteArray.mk_append_mk],hf⟩
theorem RText_great(n:Int)(h0:10≤n)(h1:n≤9223372036854775807)(ih:RTextOk (n / 10)):RTextOk n:=by
 intro w;have hd:=fun w=>Hz (RText_digit (n % 10) (by omega) (by omega) w)
 have hi:=fun w=>Hz (ih w)
 have hl:=Lib.itoa_length_le (n / 10) (by omega) (by omega);have hm:=Lib.itoa_length_le (n % 10) (by omega) (by omega);have HI:=Hz hi;have HD:=Hz hd;clear hi hd;rw[itoa_pos h0]
 generalize Lib.itoa (n / 10)=l at *
 generalize Lib.itoa (n % 10)=m at *
 have d1:decide (0≤n)=true:=decide_eq_true (by omega);have d2:decide (n<10)=false:=decide_eq_false (by omega);have d3:decide (n<0)=false:=decide_eq_false (by omega);go_enter func67,ntmps67;go_wp2_with fail;refine(HI.out _).out.mono ?_;rintro e w1 ⟨rfl,hf⟩;go_wp2_with fail;refine(HD.out _).out.mono ?_;rintro e w2 ⟨rfl,hf2⟩;go_wp2_with fail;go_ret;exact⟨by simp[ByteArray.mk_append_mk],hf.trans hf2⟩
theorem RText_least(n:Int)(h0:n≤-10)(h1:-9223372036854775808≤n)(ih:RTextOk (n.tdiv 10)):RTextOk n:=by
 intro w
 have e0:n.tdiv 10 = -((-n)/ 10):=by
  rw[← Int.neg_neg n,Int.neg_tdiv,Int.tdiv_eq_ediv_of_nonneg (by omega),Int.neg_neg]
 have e1:n.tmod 10 = -((-n) % 10):=by
  rw[← Int.neg_neg n,Int.neg_tmod,Int.tmod_eq_emod_of_nonneg (by omega),Int.neg_neg]
 have hd:=fun w=>Hz (RText_digit (-(n.tmod 10)) (by omega) (by omega) w)
 have hi:=fun w=>Hz (ih w)
 have hl:=Lib.itoa_length_le (n.tdiv 10) (by omega) (by omega);have hm:=Lib.itoa_length_le (-(n.tmod 10)) (by omega) (by omega);have HI:=Hz hi;have HD:=Hz hd;have b0:-9≤n.tmod 10:=by omega
 have b1:n.tmod 10≤0:=by omega
 clear hi hd e0 e1;rw[itoa_neg h0]
 generalize Lib.itoa (n.tdiv 10)=l at *
 generalize Lib.itoa (-(n.tmod 10))=m at *
 have d1:decide (0≤n)=false:=decide_eq_false (by omega);have d2:decide (n<0)=true:=decide_eq_true (by omega);have d3:decide (-10<n)=false:=decide_eq_false (by omega);go_enter func67,ntmps67;go_wp2_with fail;refine(HI.out _).out.mono ?_;rintro e w1 ⟨rfl,hf⟩;go_wp2_with fail;refine(HD.out _).out.mono ?_;rintro e w2 ⟨rfl,hf2⟩;go_wp2_with fail;go_ret;exact⟨by simp[ByteArray.mk_append_mk],hf.trans hf2⟩
theorem RText_all:∀ (k:Nat)(n:Int),n.natAbs≤k→-9223372036854775808≤n→n≤9223372036854775807→RTextOk n
 | 0,n,hk,h0,h1=>RText_digit n (by omega) (by omega)
 | k+1,n,hk,h0,h1=>by
  by_cases a:10≤n
  ·exact RText_great n a h1 (RText_all k (n / 10) (by omega) (by omega) (by omega))
  ·by_cases b:n≤-10
   ·have e0:n.tdiv 10 = -((-n)/ 10):=by
     rw[← Int.neg_neg n,Int.neg_tdiv,Int.tdiv_eq_ediv_of_nonneg (by omega),Int.neg_neg]
    exact RText_least n b h0 (RText_all k (n.tdiv 10) (by omega) (by omega) (by omega))
   ·by_cases c:0≤n
    ·exact RText_digit n c (by omega)
    ·exact RText_minus n (by omega) (by omega)
theorem RText_any(n:Int)(h0:-9223372036854775808≤n)(h1:n≤9223372036854775807)(w:World):
  Calls prog 67 #[vI n] w fun e w'=>e = .returned (.string ⟨(Lib.itoa n).toArray⟩)∧Fr [] w w' :=
 RText_all n.natAbs n (Nr' _) h0 h1 w
theorem run_bytes_two_drew{P:Program}{src dst e:TypeId}(hs:P.underlying src=some (.slice e))(he:P.underlying e=some (.int .u8))(hd:P.underlying dst=some .string)(w:World)(x y:UInt8)(t:TypeId):
  (convert src dst (.slice (some ⟨w.heap.size,0,none⟩) 2 2)).run P (w.alloc (.cells #[.int .u8 (x.toNat:Int),.int .u8 (y.toNat:Int)] t)).drew = .ok (.string ⟨[x,y].toArray⟩) (w.alloc (.cells #[.int .u8 (x.toNat:Int),.int .u8 (y.toNat:Int)] t)).drew:=by
 have h:=run_bytes_two hs he hd w.drew (x.toNat:Int) (y.toNat:Int) t;simp only[Int.toNat_natCast,UInt8.ofNat_toNat] at h;exact h
theorem Rone_any(c:UInt8)(w:World):
  Calls prog 104 #[.int .u8 (c.toNat:Int)] w fun e w'=>e = .returned (.string ⟨(quo c).toArray⟩)∧Fr [] w w':=by
 rw[quo_str c];have c0:0≤((c.toNat:Nat):Int):=by omega
 have c1:((c.toNat:Nat):Int)≤255:=by have:=c.toNat_lt;omega
 by_cases h1:((c.toNat:Nat):Int)=34
 ·rw[if_pos h1];have b1:(((c.toNat:Nat):Int)==34)=true:=by simpa using h1
  clear h1;go_enter func104,ntmps104;go_wp2_with fail;go_ret;exact⟨rfl,Fr.refl _ _⟩
 ·rw[if_neg h1];have b1:(((c.toNat:Nat):Int)==34)=false:=by simpa using h1
  clear h1;by_cases h2:((c.toNat:Nat):Int)=92
  ·rw[if_pos h2];have b2:(((c.toNat:Nat):Int)==92)=true:=by simpa using h2
   clear h2;go_enter func104,ntmps104;go_wp2_with fail;go_ret;exact⟨rfl,Fr.refl _ _⟩
  ·rw[if_neg h2];have b2:(((c.toNat:Nat):Int)==92)=false:=by simpa using h2
   clear h2;by_cases h3:((c.toNat:Nat):Int)=10
   ·rw[if_pos h3];have b3:(((c.toNat:Nat):Int)==10)=true:=by simpa using h3
    clear h3;go_enter func104,ntmps104;go_wp2_with fail;go_ret;exact⟨rfl,Fr.refl _ _⟩
   ·rw[if_neg h3];have b3:(((c.toNat:Nat):Int)==10)=false:=by simpa using h3
    clear h3;by_cases h4:32≤((c.toNat:Nat):Int)∧((c.toNat:Nat):Int)≤126
    ·rw[if_pos h4];have b4:decide (32≤((c.toNat:Nat):Int))=true:=decide_eq_true h4.1;have b5:decide (((c.toNat:Nat):Int)≤126)=true:=decide_eq_true h4.2;have hc:=run_bytes_one underlying110 underlying5 underlying9 w ((c.toNat:Nat):Int) 5;simp only[Int.toNat_natCast,UInt8.ofNat_toNat] at hc;clear h4;go_enter func104,ntmps104;go_wp2_with fail;go_ret;exact⟨rfl,(Fr.refl _ _).alloc _⟩
    ·rw[if_neg h4]
     have key:decide (32≤((c.toNat:Nat):Int))=false∨(decide (32≤((c.toNat:Nat):Int))=true∧decide (((c.toNat:Nat):Int)≤126)=false):=by
      by_cases h5:32≤((c.toNat:Nat):Int)
      ·exact .inr ⟨decide_eq_true h5,decide_eq_false (fun h=>h4 ⟨h5,h⟩)⟩
      ·exact .inl (decide_eq_false h5)
     clear h4;have cl:=c.toNat_lt;have i1:=fun W=>Gq (P:=prog) underlying9 .u8 (((c.toNat:Nat):Int)/ 16) (c.toNat / 16) (by omega) (by omega) W
     have i2:=fun W=>Gq (P:=prog) underlying9 .u8 (((c.toNat:Nat):Int) % 16) (c.toNat % 16) (by omega) (by omega) W
     have hc:=run_bytes_two_drew underlying110 underlying5 underlying9 w (Iq (c.toNat / 16)) (Iq (c.toNat % 16)) 5;clear cl
     rcases key with b4|⟨b4,b5⟩
     all_goals
      go_enter func104,ntmps104;go_wp2_with fail
      go_region
      all_goals
       go_wp2_with fail;go_ret;exact⟨by simp[ByteArray.mk_append_mk],((Fr.refl _ _).alloc _).drew⟩
theorem RQuote_any(s:ByteArray)(hs:s.size≤16777216)(w:World):
  Calls prog 68 #[.string s] w fun e w'=>e = .returned (.string ⟨(C7 s.data.toList).toArray⟩)∧Fr [] w w':=by
 obtain⟨i0,hi,hz0,hz1,hz2⟩:=info_parts Us;have h34:=We.lit w 34;go_enter func68,ntmps68;go_wp2_with fail
 go_loopw [3,4] (fun v i wr=>∃ k:Nat,k≤s.size∧i=vI k∧We w.heap.size v (34::Cg (s.data.toList.take k)) wr∧Fr [] w wr) (fun _ i _=>s.size-(intOf i).toNat)
 case atStart=>exact⟨0,Nat.zero_le _,rfl,h34,(Fr.refl _ _).alloc _⟩
 case round =>
  obtain⟨k,hk,rfl,⟨hown,hog⟩,hf⟩:=hrel;clear h34;have hql:=N4 s k hk;by_cases hlt:k<s.size
  ·have hq1:=Hz (Vn s k hlt);have hqc:=(S8 s[k]).2;go_wp2_with fail;refine(Rone_any s[k] _).mono ?_;rintro e w1 ⟨rfl,hf1⟩;have hown1:=I7 hown hf1 (fun _ _ h=>by cases h);go_wp2_with (at_builtin;refine I0 _ rfl _ _ 110 9 rfl 5 i0 underlying110 underlying9 hi hz0 hz1 hz2 _ _ _ rfl hown1 ⟨(quo s[k]).toArray⟩ rfl ?c3 ?c4 ?_)
   case c3=>unfold maxLen;simp only[Lc',ByteArray.size_mk',List.size_toArray];omega
   case c4=>simp only[Lc',ByteArray.size_mk',List.size_toArray];omega
   intro v' w2 hown2 hgrow hfp;go_wp2_with fail
   go_roundw
   case rel =>
    refine⟨k+1,by omega,by go_num,⟨?_,?_⟩,?_⟩
    ·rw[hq1.out];have e1:(34::(Cg (s.data.toList.take k)++quo s[k]))=(34::Cg (s.data.toList.take k))++quo s[k]:=rfl;rw[e1,La',Lib.byteCells_append];have e2:Lib.strCells ⟨(quo s[k]).toArray⟩=Lib.byteCells (quo s[k]):=Q0 _;rw[← e2];exact hown2
    ·intro g hg;rcases hfp g hg with h|h
     ·exact hog g h
     ·have:=hf.size;have:=hf1.size;omega
    ·exact(hf.trans hf1).append hgrow (fun g hg => .inr (hog g hg))
   case measure=>simp[intOf];omega
  ·have hts:s.data.toList.take k=s.data.toList:=List.take_of_length_le (by rw[Ba];omega);have HT:=Hz hts;clear hts;go_wp2_with (at_builtin;refine Fj _ rfl _ _ 110 rfl 5 i0 (.int .u8 0) 1 1 underlying110 hi hz0 hz1 hz2 rfl (by decide) _ _ _ rfl (hown.alloc _) ⟨wr.heap.size,0,none⟩ 1 1 [.int .u8 34] rfl rfl ?c1 ?c2 ?c3 ?c4 ?_)
   case c1 =>
    intro j u hj
    match j,hj with
    | 0,hj=>simp at hj;subst hj;simp[Addr.add]
   case c2=>intro u hu;simp at hu;subst hu;rfl
   case c3=>unfold maxLen;simp only[Lc'];omega
   case c4=>simp only[Lc'];omega
   intro v' w2 hown2 hgrow hfp;have hl:(Cg (s.data.toList.take k)).length+1+1=(C7 s.data.toList).length:=by rw[HT.out];simp[C7]
   have hc:Lib.byteCells (34::Cg (s.data.toList.take k))++[.int .u8 34]=Lib.byteCells (C7 s.data.toList):=by rw[HT.out];simp[C7,Lib.byteCells]
   rw[hl,hc] at hown2;clear hl hc;have hconv:=run_bytes_own underlying110 underlying5 underlying9 w2 _ v' _ hown2;go_wp2_with fail;go_ret;exact⟨rfl,(hf.alloc _).append hgrow (fun g hg => .inr (hog g hg))⟩
theorem letter_any(x a b:Int)(w:World):Calls prog 137 #[.int .u8 x,.int .u8 a,.int .u8 b] w fun e w'=>e = .returned (.bool (decide (a≤x)&&decide (x≤b)))∧w=w':=by
 go_enter func137,ntmps137;go_wp2_with fail
 all_goals go_ret
 all_goals exact⟨P6 (by rw[Bool.eq_iff_iff];simp;omega),rfl⟩
theorem Rbody_any(c:UInt8)(w:World):Calls prog 163 #[.int .u8 ((c.toNat:Nat):Int)] w fun e w'=>e = .returned (.bool (Cq c))∧w=w':=by
 have e1:(decide ((97:Int)≤((c.toNat:Nat):Int))&&decide (((c.toNat:Nat):Int)≤122)||((c.toNat:Nat):Int)==95)=Dl c:=by rw[← Cw];rfl
 have e2:(decide ((65:Int)≤((c.toNat:Nat):Int))&&decide (((c.toNat:Nat):Int)≤90))=Cf c:=by rw[← Cu];rfl
 have e3:(decide ((48:Int)≤((c.toNat:Nat):Int))&&decide (((c.toNat:Nat):Int)≤57))=Co c:=by rw[← Ev];rfl
 have key:Cq c=((decide ((97:Int)≤((c.toNat:Nat):Int))&&decide (((c.toNat:Nat):Int)≤122))||(decide ((65:Int)≤((c.toNat:Nat):Int))&&decide (((c.toNat:Nat):Int)≤90))||(decide ((48:Int)≤((c.toNat:Nat):Int))&&decide (((c.toNat:Nat):Int)≤57))||((c.toNat:Nat):Int)==95):=by
  unfold Cq;rw[← e1,e2,e3];cases (decide ((97:Int)≤((c.toNat:Nat):Int))&&decide (((c.toNat:Nat):Int)≤122))<;> cases (((c.toNat:Nat):Int)==95)<;> cases Cf c <;> cases Co c <;> rfl
 rw[key];clear key e1 e2 e3;have c1:=Hz (letter_any ((c.toNat:Nat):Int) 97 122 w);have c2:=Hz (letter_any ((c.toNat:Nat):Int) 65 90 w);have c3:=Hz (letter_any ((c.toNat:Nat):Int) 48 57 w)
 generalize (decide ((97:Int)≤((c.toNat:Nat):Int))&&decide (((c.toNat:Nat):Int)≤122))=A at *
 generalize (decide ((65:Int)≤((c.toNat:Nat):Int))&&decide (((c.toNat:Nat):Int)≤90))=B at *
 generalize (decide ((48:Int)≤((c.toNat:Nat):Int))&&decide (((c.toNat:Nat):Int)≤57))=C at *
 cases A <;> cases B <;> cases C
 all_goals
  go_enter func163,ntmps163;go_wp2_with fail;refine c1.out.mono ?_;rintro e x1 ⟨rfl,rfl⟩;go_wp2_with fail
  try(refine c2.out.mono ?_;rintro e x1 ⟨rfl,rfl⟩;go_wp2_with fail)
  try(refine c3.out.mono ?_;rintro e x1 ⟨rfl,rfl⟩;go_wp2_with fail)
  go_ret;exact⟨rfl,rfl⟩
def runEnd(s:ByteArray)(k:Nat):Nat:=k+(Cc (s.data.toList.drop k)).length
theorem runEnd_end(s:ByteArray)(k:Nat)(h:s.size≤k):runEnd s k=k:=by
 unfold runEnd;rw[List.drop_of_length_le (by rw[Ba];exact h)];rfl
theorem runEnd_body(s:ByteArray)(k:Nat)(h:k<s.size)(hb:Cq s[k]=true):runEnd s k=runEnd s (k+1):=by
 unfold runEnd Cc;rw[C9 s k h,List.takeWhile_cons_of_pos hb,Lc'];omega
theorem runEnd_stop(s:ByteArray)(k:Nat)(h:k<s.size)(hb:Cq s[k]=false):runEnd s k=k:=by
 unfold runEnd Cc;rw[C9 s k h,List.takeWhile_cons_of_neg (by simp[hb])];rfl
theorem Rrun_any(s:ByteArray)(hs:s.size≤1000000)(k0:Nat)(hk0:k0≤s.size)(w:World):
  Calls prog 138 #[.string s,vI k0] w fun e w'=>e = .returned (vI (runEnd s k0:Nat))∧w=w':=by
 have H0:Hid (runEnd s k0=runEnd s k0):=Hz rfl;generalize hE:runEnd s k0=E at H0 ⊢;have H1q:=Hz hE;clear hE H0;go_enter func138,ntmps138;go_wp2_with fail
 go_loop [1] (fun i=>∃ k:Nat,i=vI k∧k≤s.size∧Hid (runEnd s k=E)) (fun i=>s.size-(intOf i).toNat)
 case atStart=>exact⟨k0,rfl,hk0,H1q⟩
 case round =>
  obtain⟨k,rfl,hk,HK⟩:=hrel;clear H1q;by_cases hlt:k<s.size
  ·by_cases hb:Cq s[k]=true
   ·have HK2:=Hz ((runEnd_body s k hlt hb).symm.trans HK.out);go_wp2_with fail;refine(Rbody_any _ _).mono ?_;rintro e x1 ⟨rfl,rfl⟩;go_wp2_with fail
    go_round
    case rel=>exact⟨k+1,by go_num,by omega,HK2⟩
    case measure=>simp[intOf];omega
   ·have hb2:Cq s[k]=false:=by simpa using hb
    have he:=(runEnd_stop s k hlt hb2).symm.trans HK.out;subst he;clear hb HK;go_wp2_with fail;refine(Rbody_any _ _).mono ?_;rintro e x1 ⟨rfl,rfl⟩;go_wp2_with fail;go_ret;exact⟨rfl,rfl⟩
  ·have he:=(runEnd_end s k (by omega)).symm.trans HK.out;subst he;clear HK;go_wp2_with fail;go_ret;exact⟨rfl,rfl⟩
def strO(l:List LB):Obj:=.cells (l.map fun x=>Value.string ⟨x.toArray⟩).toArray 9
theorem Words_any(w:World):Calls prog 164 #[] w fun e w'=>e = .returned (.slice (some ⟨w.heap.size,0,none⟩) 25 25)∧w'=w.alloc (strO Qp):=by
 go_enter func164,ntmps164;go_wp2_with fail;go_ret;exact⟨rfl,rfl⟩
theorem strO_at{l:List LB}{w:World}{b:Nat}(h:w.heap[b]?=some (strO l))(k:Nat)(hk:k<l.length):w.cell? ⟨b,k,none⟩=some (.string ⟨l[k].toArray⟩):=by
 unfold strO at h;rw[Ae h k];simp[hk]
theorem RIsWord_any(s:ByteArray)(w:World):
  Calls prog 139 #[.string s] w fun e w'=>e = .returned (.bool (Df s.data.toList))∧Fr [] w w':=by
 have hex:Df s.data.toList=true↔∃ (k:Nat) (hk:k<Qp.length),Qp[k]=s.data.toList:=by
  unfold Df;rw[List.contains_iff_mem,List.mem_iff_getElem]
 have HX:=Hz hex
 generalize Df s.data.toList=R at *
 clear hex;go_enter func139,ntmps139;go_wp2_with fail;refine(Words_any _).mono ?_;rintro e w1 ⟨rfl,rfl⟩;have hb0:(w.alloc (strO Qp)).heap[w.heap.size]?=some (strO Qp):=Array.getElem?_push_size;have hf0:Fr [] w (w.alloc (strO Qp)):=(Fr.refl [] w).alloc _
 generalize w.alloc (strO Qp)=w1 at *
 have hBl:w.heap.size<w1.heap.size:=(Array.getElem?_eq_some_iff.1 hb0).1
 generalize w.heap.size=B at *
 go_wp2_with fail
 go_loop [4] (fun i=>∃ k:Nat,i=vI k∧k≤25∧Hid (∀ j (hj:j<Qp.length),j<k→Qp[j]≠s.data.toList)) (fun i=>25-(intOf i).toNat)
 case atStart=>exact⟨0,rfl,by omega,Hz (fun j _ h=>absurd h (by omega))⟩
 case round =>
  obtain⟨k,rfl,hk,HN⟩:=hrel;have hlen:Qp.length=25:=rfl;by_cases hlt:k<25
  ·have hcell:=strO_at hb0 k (by omega);have hk2:k<Qp.length:=by omega
   by_cases hq:Qp[k]=s.data.toList
   ·have hR:R=true:=HX.out.2 ⟨k,by omega,hq⟩;subst hR;have hq2:(Qp[k]==s.toList)=true:=by rw[ByteArray.toList_eq];simpa using hq
    clear hq HX HN;go_wp2_with fail;go_ret;exact⟨rfl,hf0⟩
   ·have hq2:(Qp[k]==s.toList)=false:=by rw[ByteArray.toList_eq];simpa using hq
    have HN2:Hid (∀ j (hj:j<Qp.length),j<k+1→Qp[j]≠s.data.toList):=Hz (fun j hj h=>by
     rcases Nat.lt_or_ge j k with h1|h1
     ·exact HN.out j hj h1
     ·have:j=k:=by omega
      subst this;exact hq)
    clear hq;go_wp2_with fail
    go_round
    case rel=>exact⟨k+1,by go_num,by omega,HN2⟩
    case measure=>simp[intOf];omega
  ·have hR:R=false:=by
    rw[Bool.eq_false_iff];intro h;obtain⟨j,hj,e⟩:=HX.out.1 h;exact HN.out j hj (by omega) e
   subst hR;go_wp2_with fail;go_ret;exact⟨rfl,hf0⟩
section
attribute [local go_sem ↓] Go.wp_at_zero Go.wp_at_succ
theorem ptsC_len(l:List (Int×Nat)):(S6 l).length=l.length * 2:=by
 induction l with
 | nil=>rfl
 | cons x l ih=>rw[show S6 (x::l)=ptC x++S6 l from rfl,La',ih,Lc',show(ptC x).length=2 from rfl];omega
theorem ptsC_one(l:List (Int×Nat)):∀ u ∈ S6 l,u.oneCell'=true:=by
 intro u hu;obtain⟨p,_,hp⟩:=List.mem_flatMap.1 hu;simp[ptC] at hp;rcases hp with rfl|rfl <;> rfl
theorem Ko.weak{B B':Nat}{v:Value}{l:List (Int×Nat)}{w:World}(h:Ko B v l w)(hb:B'≤B):Ko B' v l w:=⟨h.1,fun g hg=>Nat.le_trans hb (h.2 g hg)⟩
theorem infoPart:(prog.info? 125).map (fun i=>(i.zero,i.size,i.bytes))=some (some (.agg #[vI 0,vI 0]),2,16):=by kernel_rfl
theorem take_step{α:Type}(P C:List α)(m:Nat):P.take m++C.take (m-(P.take m).length)=(P++C).take m:=by
 rw[List.take_append,List.length_take];rcases Nat.le_total P.length m with h|h
 ·rw[Nat.min_eq_right h]
 ·rw[Nat.min_eq_left h,Nat.sub_self,Nat.sub_eq_zero_of_le h]
theorem take_full{α:Type}(P C:List α)(m:Nat)(h:m≤(P.take m).length):P.take m=(P++C).take m:=by
 rw[List.length_take] at h;rw[List.take_append_of_le_length (by omega)]
theorem partsPs_app(l m:List Ak)(d:Nat):C6 (l++m) d=C6 l d++C6 m d:=by
 induction l with
 | nil=>simp[C6]
 | cons x l ih=>simp[C6,ih]
theorem partsPs_take{l:List Ak}{i:Nat}{x:Ak}(h:l[i]?=some x)(d:Nat):C6 (l.take (i+1)) d=C6 (l.take i) d++Bz x d:=by
 obtain⟨hi,he⟩:=List.getElem?_eq_some_iff.1 h;rw[List.take_succ_eq_append_getElem hi,partsPs_app,he];simp[C6]
inductive BdP (b:Nat):Ak→Prop
 | mk {k a nm n s ls args} (h:args.length≤b) (h2:∀ (i:Nat) (x:Ak),args[i]?=some x→BdP b x):BdP b (.mk k a nm n s ls args)
inductive BdE (b:Nat):Ab→Prop
 | mk {k a nm n s ls args arms} (h:args.length≤b) (h2:∀ (i:Nat) (x:Ab),args[i]?=some x→BdE b x) (h3:arms.length≤b) (h4:∀ (i:Nat) (p:Ak) (x:Ab),arms[i]?=some (p,x)→BdP b p) (h5:∀ (i:Nat) (p:Ak) (x:Ab),arms[i]?=some (p,x)→BdE b x):BdE b (.mk k a nm n s ls args arms)
theorem BdP.of_sz{b:Nat}:∀ (N:Nat)(x:Ak),szP x<N→szP x≤b→BdP b x
 | 0,_,h,_=>absurd h (Nat.not_lt_zero _)
 | N+1,.mk k a nm n s ls args,h,hb=>by
  have e:szP (.mk k a nm n s ls args)=1+Ey args:=by simp[szP]
  rw[e] at h hb;have:=Tf args;exact .mk (by omega) (fun i x hx=>BdP.of_sz N x (by have:=Gz hx;omega) (by have:=Gz hx;omega))
theorem BdE.of_sz{b:Nat}:∀ (N:Nat)(x:Ab),szE x<N→szE x≤b→BdE b x
 | 0,_,h,_=>absurd h (Nat.not_lt_zero _)
 | N+1,.mk k a nm n s ls args arms,h,hb=>by
  have e:szE (.mk k a nm n s ls args arms)=1+(B1 args+Cd arms):=by simp[szE]
  rw[e] at h hb;have:=Te args;have:=Td arms;exact .mk (by omega) (fun i x hx=>BdE.of_sz N x (by have:=Et hx;omega) (by have:=Et hx;omega)) (by omega) (fun i p x hx=>BdP.of_sz (szP p+1) p (by omega) (by have:=Fd hx;omega)) (fun i p x hx=>BdE.of_sz N x (by have:=Fd hx;have:=Y7 p;omega) (by have:=Fd hx;omega))
def PPA(N:Nat):Prop:=∀ (k a:Int)(nm:LB)(n:Int)(s:LB)(ls:List LB)(args:List Ak)(v5 v6:Value)(d:Nat)(D:Int)(m:Nat)(M:Int)(w:World),szP (.mk k a nm n s ls args)<N→D=d→d+m≤4398046511104→M=m→BdP 4398046511104 (.mk k a nm n s ls args)→
  Bd w (fun b=>b<w.heap.size) (.mk k a nm n s ls args) [vI k,vI a,vS nm,vI n,vS s,v5,v6] →
  Calls prog 33 #[.agg #[vI k,vI a,vS nm,vI n,vS s,v5,v6],vI D,vI M] w fun e w'=>∃ v,e = .returned v∧Ko w.heap.size v ((Bz (.mk k a nm n s ls args) d).take m) w'∧Fr [] w w'
theorem ppa_step(N:Nat)(ih:PPA N):PPA (N+1):=by
 intro k a nm n s ls args v5 v6 d D m M w hN hD hb hM hbd hx;subst hM;have hm:m≤4398046511104:=by omega
 cases hx with
 | mk c5 c6 h5 e5 h6 e6 =>
 have hsz:szP (.mk k a nm n s ls args)=1+Ey args:=by simp[szP]
 rw[hsz] at hN
 cases hbd with
 | mk bd1 bd2 =>
 have HBD:=Hz bd2;rw[Kf]
 have hform:∃ A6 m6 cc6,v6 = .slice A6 m6 cc6∧m6=args.length:=by
  obtain⟨_,_,hv⟩:=h6.form;exact⟨_,_,_,hv,rfl⟩
 obtain⟨A6,m6,cc6,rfl,rfl⟩:=hform;have hform:∃ A5 m5 cc5,v5 = .slice A5 m5 cc5:=by obtain⟨_,_,hv⟩:=h5.form;exact⟨_,_,_,hv⟩
 obtain⟨A5,m5,cc5,rfl⟩:=hform;have IH:=Hz ih;have H6:=Hz h6;have E6:Hid (∀ (i:Nat) (x:Ak),args[i]?=some x→Bd w (fun b=>b<w.heap.size) x (c6 i)):=Hz e6;have HN:=Hz hN;have hdn:(0:Int)≤D:=by omega
 have hdx:D≤4398046511104:=by omega
 have HD:=Hz hD;have hm6:(args.length:Int)≤4611686018427387903:=by omega
 obtain⟨i0,hi,hz0,hz1,hz2⟩:=info_parts infoPart;have HI:=Hz hi;have HZ0:=Hz hz0;have HZ1:=Hz hz1;have HZ2:=Hz hz2;have HB:=Hz hb;clear ih h5 e5 h6 e6 hN hsz hi hz0 hz1 hz2 hD hb bd2;go_enter func33,ntmps33;by_cases hm0:m=0
 ·subst hm0;go_wp2_with fail;have f0:Fr [] w (w.alloc (.cells #[vI k,vI a,vS nm,vI n,vS s,.slice A5 m5 cc5,.slice A6 args.length cc6] 25)):=(Fr.refl [] w).alloc _;have q0:=Ad w (.cells #[vI k,vI a,vS nm,vI n,vS s,.slice A5 m5 cc5,.slice A6 args.length cc6] 25)
  generalize w.alloc (.cells #[vI k,vI a,vS nm,vI n,vS s,.slice A5 m5 cc5,.slice A6 args.length cc6] 25)=w1 at *
  have hT1:=Aa q0;go_ret;exact⟨_,rfl,Ko.nil_ _ _,f0⟩
 ·have hM0:¬ (m:Int)≤0:=by omega
  have hMx:(m:Int)≤4398046511104:=by omega
  have hs1:(w.alloc (.cells #[vI k,vI a,vS nm,vI n,vS s,.slice A5 m5 cc5,.slice A6 args.length cc6] 25)).heap.size=w.heap.size+1:=by simp
  have hown:Ko (w.heap.size+1) (.slice (some ⟨w.heap.size+1,0,none⟩) 1 1) (((a,d)::C6 (args.take 0) (d+1)).take m) ((w.alloc (.cells #[vI k,vI a,vS nm,vI n,vS s,.slice A5 m5 cc5,.slice A6 args.length cc6] 25)).alloc (.cells #[vI a,vI D] 125)):=by
   have e:((a,d)::C6 (args.take 0) (d+1)).take m=[(a,d)]:=by
    obtain⟨m',rfl⟩:∃ m',m=m'+1:=⟨m-1,by omega⟩
    simp[C6]
   rw[e];refine⟨?_,fun g hg=>by simp[Value.ownBlock] at hg;omega⟩;have:=World.ownsRow_lit (base:=0) (e:=125) (size:=2) (w.alloc (.cells #[vI k,vI a,vS nm,vI n,vS s,.slice A5 m5 cc5,.slice A6 args.length cc6] 25)) #[vI a,vI D] 1 (Nat.zero_le _) (by decide) (by simp);rw[hs1] at this;have hDD:=HD.out;subst hDD;simpa [S6,ptC] using this
  have HT:=Hz hown;have f1:Fr [] w ((w.alloc (.cells #[vI k,vI a,vS nm,vI n,vS s,.slice A5 m5 cc5,.slice A6 args.length cc6] 25)).alloc (.cells #[vI a,vI D] 125)):=((Fr.refl [] w).alloc _).alloc _;have q0:=Af (Ad w (.cells #[vI k,vI a,vS nm,vI n,vS s,.slice A5 m5 cc5,.slice A6 args.length cc6] 25)) (.cells #[vI a,vI D] 125);clear hown hs1;go_wp2_with fail
  generalize (w.alloc (.cells #[vI k,vI a,vS nm,vI n,vS s,.slice A5 m5 cc5,.slice A6 args.length cc6] 25)).alloc (.cells #[vI a,vI D] 125)=w2 at *
  generalize hT:w.heap.size=T at *
  go_loopw [7,8] (fun v iv wr=>∃ (i:Nat),iv=vI i∧i≤args.length∧Hid (Ko (T+1) v (((a,d)::C6 (args.take i) (d+1)).take m) wr)∧Fr [] w wr∧wr.heap[T]?=some (.cells #[vI k,vI a,vS nm,vI n,vS s,.slice A5 m5 cc5,.slice A6 args.length cc6] 25 (0,0))) (fun _ iv _=>args.length-(intOf iv).toNat)
  case atStart=>exact⟨0,rfl,by omega,HT,f1,q0⟩
  case round =>
   obtain⟨i,rfl,hi',HO,f,q⟩:=hrel;clear HT f1 q0;have hTw:=Aa q;obtain⟨⟨l0,l1,l2,l3,l4,l5,l6⟩,_⟩:=Aq q
   have hne:((a,d)::C6 (args.take i) (d+1)).take m≠[]:=by
    obtain⟨m',rfl⟩:∃ m',m=m'+1:=⟨m-1,by omega⟩
    simp
   have hlm:(((a,d)::C6 (args.take i) (d+1)).take m).length≤m:=by rw[List.length_take];omega
   rcases HO.out.form with⟨_,h⟩| ⟨g0,c0,hv,hBg,hgs0,_⟩
   ·exact absurd h hne
   ·subst hv;by_cases hlt:i<args.length∧(((a,d)::C6 (args.take i) (d+1)).take m).length<m
    ·obtain⟨hlt,hroom⟩:=hlt
     obtain⟨y,hy⟩:∃ y,args[i]?=some y:=⟨args[i],Lg' hlt⟩
     have HS:Hid ((((a,d)::C6 (args.take (i+1)) (d+1)).take m)=(((a,d)::C6 (args.take i) (d+1)).take m)++(Bz y (d+1)).take (m-(((a,d)::C6 (args.take i) (d+1)).take m).length)):=Hz (by
      rw[take_step,partsPs_take hy,Lp'])
     have HY:=Hz hy;have hlp:1≤(((a,d)::C6 (args.take i) (d+1)).take m).length:=List.length_pos_iff.2 hne;clear hy hne
     generalize ((a,d)::C6 (args.take i) (d+1)).take m=L at *
     have hyx:=E6.out i y HY.out
     rcases H6.out with⟨_,_,_,hl⟩| ⟨g,og,c',hv,hg,hgs,_,hcs⟩
     ·omega
     ·cases hv;obtain⟨hcl,hcc⟩:=hcs i hlt;have hcell:∀ (j:Nat) (v:Value),(c6 i)[j]?=some v→wr.cell? ⟨g,og+i * 7+j,none⟩=some v:=fun j v hj=>(f.cell (p:=⟨g,og+i * 7+j,none⟩) (by simp;omega) (fun x=>by cases x)).trans (hcc j v hj)
      have hgw:g<wr.heap.size:=Nl' hgs (by have:=f.size;omega)
      generalize hci:c6 i=ci at *
      have hyw:=hyx.keep (w':=wr) (ok':=fun b=>b<wr.heap.size) (Sh.of_fr f (fun b hb _=>⟨by have:=f.size;omega,fun x=>by cases x⟩))
      cases hyx with
      | @mk k2 a2 nm2 n2 s2 ls2 args2 v52 v62 c52 c62 h52 e52 h62 e62 =>
      have hf5:∃ A m cc,v52 = .slice A m cc:=by obtain⟨_,_,hv⟩:=h52.form;exact⟨_,_,_,hv⟩
      have hf6:∃ A m cc,v62 = .slice A m cc:=by obtain⟨_,_,hv⟩:=h62.form;exact⟨_,_,_,hv⟩
      clear h52 e52 h62 e62;obtain⟨A52,m52,cc52,rfl⟩:=hf5;obtain⟨A62,m62,cc62,rfl⟩:=hf6;have x0:wr.cell? ⟨g,og+i * 7,none⟩=some (vI k2):=hcell 0 _ rfl;have x1:wr.cell? ⟨g,og+i * 7+1,none⟩=some (vI a2):=hcell 1 _ rfl;have x2:wr.cell? ⟨g,og+i * 7+2,none⟩=some (vS nm2):=hcell 2 _ rfl;have x3:wr.cell? ⟨g,og+i * 7+3,none⟩=some (vI n2):=hcell 3 _ rfl;have x4:wr.cell? ⟨g,og+i * 7+4,none⟩=some (vS s2):=hcell 4 _ rfl;have x5:wr.cell? ⟨g,og+i * 7+5,none⟩=some (.slice A52 m52 cc52):=hcell 5 _ rfl;have x6:wr.cell? ⟨g,og+i * 7+6,none⟩=some (.slice A62 m62 cc62):=hcell 6 _ rfl;have hsz2:=Gz HY.out;have cP:=Hz (IH.out k2 a2 nm2 n2 s2 ls2 args2 (.slice A52 m52 cc52) (.slice A62 m62 cc62) (d+1) (D+1) (m-L.length) ((m:Int)-(L.length:Int)) wr (by have:=HN.out;omega) (by rw[HD.out];simp) (by have:=HB.out;omega) (by omega) (HBD.out i _ HY.out) hyw);clear hcell hci hcc hcs hcl hyw hg;have q1:(0:Int)≤(i:Int):=by omega
      have q2:(i:Int)<(args.length:Int):=by omega
      have q3:(L.length:Int)<(m:Int):=by omega
      go_wp2_with fail;refine cP.out.mono ?_;rintro e w3 ⟨v3,rfl,O3q,f3⟩;clear cP;have O0q:=HO.out.fr f3;have q:=f3.keep q nE;have F:=f.trans f3;have hcl:((Bz (.mk k2 a2 nm2 n2 s2 ls2 args2) (d+1)).take (m-L.length)).length≤m-L.length:=by rw[List.length_take];omega
      have hcn:(Bz (.mk k2 a2 nm2 n2 s2 ls2 args2) (d+1)).take (m-L.length)≠[]:=by
       rw[Kf]
       obtain⟨m',hm'⟩:∃ m',m-L.length=m'+1:=⟨m-L.length-1,by omega⟩
       rw[hm'];simp
      generalize (Bz (.mk k2 a2 nm2 n2 s2 ls2 args2) (d+1)).take (m-L.length)=C at *
      rcases O3q.form with⟨_,h⟩| ⟨g3,c3,rfl,_,hg3,hnews⟩
      ·exact absurd h hcn
      ·have hi:=HI.out;have hz0:=HZ0.out;have hz1:=HZ1.out;have hz2:=HZ2.out;clear hcn f3;go_wp2_with (at_builtin;refine Fj _ rfl _ _ 66 rfl 125 i0 _ 2 16 underlying66 hi hz0 hz1 hz2 rfl (by decide) _ _ _ rfl O0q.1 ⟨g3,0,none⟩ C.length c3 (S6 C) rfl (ptsC_len _) ?c4a (ptsC_one _) ?c4b ?c4c ?_)
       case c4a=>exact hnews
       case c4b=>unfold maxLen;omega
       case c4c=>omega
       intro v4 z4 hown4 hgrow4 hfp4;obtain⟨O4q,F4,K4⟩:=O0q.app (by have:=F.size;have:=Aa q;omega) hown4 hgrow4 hfp4;have HO4:Hid (Ko (T+1) v4 (((a,d)::C6 (args.take (i+1)) (d+1)).take m) z4):=Hz (by rw[HS.out];exact O4q);have q:=K4 T _ (by omega) q;have F:=F4 w F (by omega);clear hown4 hgrow4 hfp4 O4q F4 K4 O0q O3q hnews HS HO hi hz0 hz1 hz2;go_wp2_with fail
       go_roundw
       case rel=>exact⟨i+1,by go_num,by omega,HO4,F,q⟩
       case measure=>simp[intOf];omega
    ·have HR:Hid (Ko T (.slice (some ⟨g0,0,none⟩) (((a,d)::C6 (args.take i) (d+1)).take m).length c0) (((a,d)::C6 args (d+1)).take m) wr):=Hz (by
      have e:((a,d)::C6 (args.take i) (d+1)).take m=((a,d)::C6 args (d+1)).take m:=by
       by_cases h1:i<args.length
       ·have h2:=take_full ((a,d)::C6 (args.take i) (d+1)) (C6 (args.drop i) (d+1)) m (by omega)
        rw[h2,Lp',← partsPs_app,List.take_append_drop]
       ·have e3:args.take i=args:=List.take_of_length_le (by omega)
        rw[e3]
      rw[← e]
      exact HO.out.weak (by omega))
     have hrm:i<args.length→¬ (((a,d)::C6 (args.take i) (d+1)).take m).length<m:=fun h1 h=>hlt ⟨h1,h⟩
     clear HO hne hlt
     generalize (((a,d)::C6 (args.take i) (d+1)).take m).length=r at *
     by_cases h1:i<args.length
     ·have h2:¬ (r:Int)<(m:Int):=by have:=hrm h1;omega
      have q2:(i:Int)<(args.length:Int):=by omega
      go_wp2_with fail;go_ret;exact⟨_,rfl,HR.out,f⟩
     ·have q2:¬ (i:Int)<(args.length:Int):=by omega
      go_wp2_with fail;go_ret;exact⟨_,rfl,HR.out,f⟩
theorem ppa_all:∀ N,PPA N
 | 0=>fun _ _ _ _ _ _ _ _ _ _ _ _ _ _ h=>absurd h (Nat.not_lt_zero _)
 | N+1=>ppa_step N (ppa_all N)
end
section
open Go.RowKit Go.Deep
def Nm(n:Int):Prop:=(Lit.int .i64 n).wf=true
inductive WtP:Ak→Prop
 | mk {k a nm n s ls args} (hk:Nm k∧Nm a∧Nm n) (h1:nm.length≤reachBytes) (h2:s.length≤reachBytes) (h3:ls.length * 16≤reachBytes) (h4:∀ (i:Nat) (x:LB),ls[i]?=some x→x.length≤reachBytes) (h5:args.length * 104≤reachBytes) (h6:∀ (i:Nat) (x:Ak),args[i]?=some x→WtP x):WtP (.mk k a nm n s ls args)
instance:Inhabited Ak:=⟨.zero⟩
instance:Inhabited Ab:=⟨.zero⟩
theorem len7{α:Type}:∀ {l:List α},l.length=7→∃ a b c d e f g,l=[a,b,c,d,e,f,g]
 | [a,b,c,d,e,f,g],_=>⟨a,b,c,d,e,f,g,rfl⟩
theorem Ts(b o k:Nat):(⟨b,o,none⟩:Addr).add k=⟨b,o+k,none⟩:=by
 unfold Addr.add;by_cases h:k=0
 ·subst h;simp
 ·simp[h]
theorem J0{H:Type}{P:Program}{e:TypeId}:∀ {l:List (DataW H)},(DataW.weightsAll P e l).all (·≤reachBytes)=true→∀ (i:Nat)(d:DataW H),l[i]?=some d→(d.weights P e).all (·≤reachBytes)=true
 | [],_,i,d,h=>by simp at h
 | x::l,hw,i,d,h=>by
  simp only[DataW.weightsAll,List.all_append,Ba'] at hw
  cases i with
  | zero=>simp at h;subst h;exact hw.1
  | succ i=>exact J0 hw.2 i d (by simpa using h)
section
variable {H:Type} {enc:TypeId×Value→H} {w:World}
theorem Oo{α:Type} [Inhabited α] {P:Program}{t e:TypeId}(ht:P.underlying t=some (.slice e))(size bytes:Nat)(hs:P.cellsOf e=size)(hs0:0<size)(hby:P.bytesOf e=bytes)(E:α→List Value→Prop)(Wt:α→Prop){fuel:Nat}{cs:List Value}{x:DataW H×List MemPlace}
  (h:DataW.trod enc P w 0 (fun _=>true) true fuel t cs=some x)
  (hel:∀ n,n<fuel→∀ cs' y,DataW.trod enc P w 0 (fun _=>true) true n e cs'=some y→∃ z:α,E z cs'∧((y.1.weights P e).all (·≤reachBytes)=true→Wt z)):
  ∃ (v:Value) (xs:List α) (c:Nat→List Value),cs=[v]∧Dy w (fun b=>b<w.heap.size) v xs.length size c∧(∀ (i:Nat) (z:α),xs[i]?=some z→E z (c i))∧
   ((x.1.weights P t).all (·≤reachBytes)=true→xs.length * bytes≤reachBytes∧∀ (i:Nat) (z:α),xs[i]?=some z→Wt z):=by
 rcases DataW.trod_slice ht h with⟨rfl,rfl⟩| ⟨a,len,cap,elems,rest,n,rfl,rfl,rfl,_,hlc,_,hlen,hi,_,_⟩
 ·exact⟨_,[],fun _=>[],rfl,Dy.nil_ _ _ _ _,fun i z hz=>by simp at hz,fun _=>⟨by simp,fun i z hz=>by simp at hz⟩⟩
 ·have each:∀ i,i<len→∃ q:List Value×α,w.cells? 0 (a.add (i * size)) size=some q.1∧E q.2 q.1∧(∀ d,elems[i]?=some d→(d.1.weights P e).all (·≤reachBytes)=true→Wt q.2):=fun i hlt=>by
   have:=hi i hlt;rw[hs] at this
   obtain⟨d,hd⟩:∃ d,elems[i]?=some d:=⟨elems[i],Lg' (by omega)⟩
   rw[hd] at this;obtain⟨cs',h1,h2⟩:=Option.bind_eq_some_iff.1 this;obtain⟨z,hz1,hz2⟩:=hel n (Nat.lt_succ_self n) cs' d h2;exact⟨(cs',z),h1,hz1,fun d' hd' hw=>by rw[hd] at hd';cases hd';exact hz2 hw⟩
  obtain⟨q,hq⟩:=choose_lt each;refine⟨_,(List.range len).map (fun i=>(q i).2),fun i=>(q i).1,rfl,?_,fun i z hz=>?_,fun hw=>?_⟩
  ·rw[List.length_map,List.length_range];by_cases h0:len=0
   ·subst h0;exact .inl ⟨_,_,rfl,rfl⟩
   ·obtain⟨b,o,sp⟩:=a
    have hc0:=(World.cells?_some (hq 0 (by omega)).1)
    obtain⟨v,hv⟩:∃ v,(q 0).1[0]?=some v:=⟨(q 0).1[0]'(by rw[hc0.2.1];exact hs0),Lg' _⟩
    have hcc:=hc0.2.2 0 hs0;rw[hv] at hcc;have e0:((⟨b,o,sp⟩:Addr).add (0 * size)).add 0=⟨b,o,sp⟩:=by simp[Addr.add]
    rw[e0] at hcc;have hsp:sp=none:=World.cell?_spot hcc;subst hsp
    have hb:b<w.heap.size:=by
     unfold World.cell? at hcc;rcases Nat.lt_or_ge b w.heap.size with h1|h1
     ·exact h1
     ·rw[Array.getElem?_eq_none h1] at hcc;cases hcc
    refine .inr ⟨b,o,cap,rfl,hb,hb,hlc,fun i hlt=>?_⟩;obtain⟨_,h1,h2⟩:=World.cells?_some (hq i hlt).1;refine⟨h1,fun j u hu=>?_⟩;have hj:j<size:=by rw[← h1];exact(List.getElem?_eq_some_iff.1 hu).1
    have:=h2 j hj;rw[Ts,Ts] at this;exact this.trans hu
  ·obtain⟨hlt,e⟩:=List.getElem?_eq_some_iff.1 hz;simp at hlt e;subst e;exact(hq i hlt).2.1
  ·rw[DataW.weights,ht] at hw;simp only[List.all_cons,List.all_append,Ba',decide_eq_true_eq,List.length_map,hby] at hw;refine⟨?_,fun i z hz=>?_⟩
   ·rw[List.length_map,List.length_range,← hlen];exact Nat.le_trans (Nat.mul_le_mul_right _ (Nat.le_add_right _ _)) hw.1
   ·obtain⟨hlt,e⟩:=List.getElem?_eq_some_iff.1 hz;simp at hlt e;subst e;have hd:elems[i]?=some elems[i]:=Lg' (by omega);exact(hq i hlt).2.2 _ hd (J0 hw.2.1 i _ (by rw[List.getElem?_map,hd];rfl))
theorem Pa:prog.cellsOf 25=7:=by kernel_rfl
theorem Mn:prog.cellsOf 9=1:=by kernel_rfl
theorem bytesPat:prog.bytesOf 25=104:=by kernel_rfl
theorem Zo:prog.bytesOf 9=16:=by kernel_rfl
theorem Rd:prog.cellsOf 3=1:=by kernel_rfl
theorem Rc:prog.cellsOf 2=1:=by kernel_rfl
theorem Pb:prog.cellsOf 22=1:=by kernel_rfl
theorem Wp:prog.cellsOf 23=1:=by kernel_rfl
theorem L7{fuel:Nat}{cs:List Value}{x:DataW H×List MemPlace}(h:DataW.trod enc prog w 0 (fun _=>true) true fuel 22 cs=some x):
  ∃ (v:Value) (ls:List LB) (c:Nat→List Value),cs=[v]∧Dy w (fun b=>b<w.heap.size) v ls.length 1 c∧(∀ (i:Nat) (z:LB),ls[i]?=some z→c i=Of z)∧
   ((x.1.weights prog 22).all (·≤reachBytes)=true→ls.length * 16≤reachBytes∧∀ (i:Nat) (z:LB),ls[i]?=some z→z.length≤reachBytes):=by
 refine Oo (P:=prog) underlying22 1 16 Mn (by decide) Zo (fun z cs=>cs=Of z) (fun z=>z.length≤reachBytes) h (fun n _ cs' y hy=>?_);obtain⟨s,rfl,rfl,_⟩:=DataW.trod_string underlying9 hy;exact⟨s.data.toList,by simp[Of],fun hw=>by simpa [DataW.weights] using hw⟩
theorem Pz:∀ (N fuel:Nat),fuel<N→∀ (cs:List Value)(x:DataW H×List MemPlace),DataW.trod enc prog w 0 (fun _=>true) true fuel 25 cs=some x →
  ∃ t:Ak,Bd w (fun b=>b<w.heap.size) t cs∧((x.1.weights prog 25).all (·≤reachBytes)=true→WtP t)
 | 0,_,h,_,_,_=>absurd h (Nat.not_lt_zero _)
 | N+1,fuel,hN,cs,x,h=>by
  obtain⟨xs,n,rfl,rfl,hcl,hxl,hf⟩:=DataW.trod_struct underlying25 h;rw[Pa] at hcl;have hxl:xs.length=7:=hxl;obtain⟨x0,x1,x2,x3,x4,x5,x6,rfl⟩:=len7 hxl;obtain⟨v0,v1,v2,v3,v4,v5,v6,rfl⟩:=len7 hcl;have h0:=hf 0 _ rfl;have h1:=hf 1 _ rfl;have h2:=hf 2 _ rfl;have h3:=hf 3 _ rfl;have h4:=hf 4 _ rfl;have h5:=hf 5 _ rfl;have h6:=hf 6 _ rfl;simp only[List.getElem_toArray,List.getElem_cons_zero,List.getElem_cons_succ,Rd,Rc,Mn,Pb,Wp,List.drop_zero,List.drop_succ_cons,List.take_succ_cons,List.take_zero,List.getElem?_cons_zero,List.getElem?_cons_succ] at h0 h1 h2 h3 h4 h5 h6;obtain⟨k,e0,rfl,w0⟩:=DataW.trod_int underlying3 h0;obtain⟨a,e1,rfl,w1⟩:=DataW.trod_int underlying3 h1;obtain⟨nm,e2,rfl,w2⟩:=DataW.trod_string underlying9 h2;obtain⟨m,e3,rfl,w3⟩:=DataW.trod_int underlying2 h3;obtain⟨s,e4,rfl,w4⟩:=DataW.trod_string underlying9 h4;obtain⟨u5,ls,c5,e5,s5,l5,b5⟩:=L7 h5;obtain⟨u6,args,c6,e6,s6,l6,b6⟩:=Oo (P:=prog) (α:=Ak) (hel:=fun q hq cs' y hy=>Pz N q (by omega) cs' y hy) underlying23 7 104 Pa (by decide) bytesPat (E:=fun z cs=>Bd w (fun b=>b<w.heap.size) z cs) (Wt:=WtP) h6;cases e0;cases e1;cases e2;cases e3;cases e4;cases e5;cases e6;refine⟨.mk k a nm.data.toList m s.data.toList ls args,?_,fun hw=>?_⟩
  ·have:=Bd.mk (w:=w) (ok:=fun b=>b<w.heap.size) (k:=k) (a:=a) (nm:=nm.data.toList) (n:=m) (s:=s.data.toList) c5 c6 s5 l5 s6 l6;simpa using this
  ·rw[DataW.weights,underlying25] at hw;simp[DataW.weightsEach,DataW.weights] at hw;obtain⟨hw2,hw4,hw5,hw6⟩:=hw;obtain⟨p1,p2⟩:=b5 (by simpa using hw5);obtain⟨p3,p4⟩:=b6 (by simpa using hw6);exact .mk ⟨w0,w1,w3⟩ (by simpa using hw2) (by simpa using hw4) p1 p2 p3 p4
end
theorem Se{P:Program}{w:World}{r:Reach}{base:Nat}{t:TypeId}{v:Value}{fs:Array Field}(ht:P.underlying t=some (.struct fs))(h:Value.okWide P w r base t v):∃ cs,v = .agg cs:=by
 unfold Value.okWide at h;rw[ht] at h;obtain⟨cs,rfl,_⟩:=h;exact⟨cs,rfl⟩
theorem Tl{H:Type}{P:Program}{ts:List TypeId}{ds:List (DataW H)}(h:(DataW.weightsEach P ts ds).all (·≤reachBytes)=true){j:Nat}{t:TypeId}{d:DataW H}(ht:ts[j]?=some t)(hd:ds[j]?=some d):(d.weights P t).all (·≤reachBytes)=true :=
 List.all_eq_true.2 fun n hn=>List.all_eq_true.1 h n (DataW.weights_mem_each ht hd n hn)
theorem Ly:laidOutB prog=true:=by kernel_rfl
section
variable {H:Type} {enc:TypeId×Value→H} {w:World}
theorem S3{cs:Array Value}{d:DataW H}{p:List MemPlace}(h:DataW.Trod enc prog w 0 (fun _=>true) true 25 (.agg cs) d p)(hw:(d.weights prog 25).all (·≤reachBytes)=true):
  ∃ (k a:Int) (nm:LB) (n:Int) (s:LB) (ls:List LB) (args:List Ak) (A5:Option Addr) (n5 c5:Nat) (A6:Option Addr) (n6 c6:Nat),
   cs = #[vI k,vI a,vS nm,vI n,vS s,.slice A5 n5 c5,.slice A6 n6 c6]∧Bd w (fun b=>b<w.heap.size) (.mk k a nm n s ls args) [vI k,vI a,vS nm,vI n,vS s,.slice A5 n5 c5,.slice A6 n6 c6]∧WtP (.mk k a nm n s ls args):=by
 obtain⟨fuel,hf⟩:=h;obtain⟨t,hx,hwt⟩:=Pz (fuel+1) fuel (Nat.lt_succ_self _) _ _ hf;have hwt:=hwt hw;have hcs:(Value.agg cs).cells.toList=cs.toList:=rfl;rw[hcs] at hx;generalize hl:cs.toList=l at hx;have hx0:=hx
 cases hx with
 | mk c5 c6 h5 e5 h6 e6 =>
  obtain⟨_,_,rfl⟩:=h5.form;obtain⟨_,_,rfl⟩:=h6.form;refine⟨_,_,_,_,_,_,_,_,_,_,_,_,_,?_,hx0,hwt⟩;rw[← Array.toArray_toList (xs:=cs),hl]
end
end
theorem inN_of{n:Int}(h:Nm n):inN n:=by
 unfold Nm at h;simp only[Lit.wf,IntKind.min,IntKind.max,IntKind.signed,IntKind.bits,Ba',decide_eq_true_eq,if_true] at h;unfold inN;omega
def Cj:List LB→Int→Int
 | [],n=>n
 | x::l,n=>if 0<n then Cj l (n-(x.length+1))else n
mutual
def Dd:Ak→Int→Int
 | .mk _ _ nm _ s ls args,n=>Dh args (Cj ls (n-(nm.length+s.length+1)))
def Dh:List Ak→Int→Int
 | [],n=>n
 | x::l,n=>if 0<n then Dh l (Dd x n)else n
end
theorem Rl{ls:List LB}{i:Nat}{x:LB}(h:ls[i]?=some x)(n:Int)(hn:0<n):Cj (ls.drop i) n=Cj (ls.drop (i+1)) (n-(x.length+1)):=by
 obtain⟨hi,e⟩:=List.getElem?_eq_some_iff.1 h;rw[List.drop_eq_getElem_cons hi,e,Cj,if_pos hn]
theorem longPs_at{l:List Ak}{i:Nat}{x:Ak}(h:l[i]?=some x)(n:Int)(hn:0<n):Dh (l.drop i) n=Dh (l.drop (i+1)) (Dd x n):=by
 obtain⟨hi,e⟩:=List.getElem?_eq_some_iff.1 h;rw[List.drop_eq_getElem_cons hi,e,Dh,if_pos hn]
theorem Lg:∀ (l:List LB)(n:Int),n≤0→Cj l n=n
 | [],_,_=>rfl
 | _::_,_,h=>by rw[Cj,if_neg (by omega)]
theorem Pv:∀ (l:List Ak)(n:Int),n≤0→Dh l n=n
 | [],_,_=>by rw[Dh]
 | _::_,_,h=>by rw[Dh,if_neg (by omega)]
theorem Gk:∀ (l:List LB)(n:Int),Cj l n≤n
 | [],_=>by simp[Cj]
 | x::l,n=>by
  rw[Cj];split
  ·have:=Gk l (n-(x.length+1));omega
  ·omega
mutual
theorem Is:∀ (x:Ak)(n:Int),Dd x n≤n
 | .mk k a nm m s ls args,n=>by
  rw[Dd];have h1:=Hk args (Cj ls (n-(nm.length+s.length+1)));have h2:=Gk ls (n-(nm.length+s.length+1));omega
theorem Hk:∀ (l:List Ak)(n:Int),Dh l n≤n
 | [],n=>by simp[Dh]
 | x::l,n=>by
  rw[Dh];have h1:=Hk l (Dd x n);have h2:=Is x n;split <;> omega
end
theorem Lh:∀ (l:List LB)(n:Int),0<Cj l n→n≤65536→∀ x ∈ l,x.length≤65536
 | [],_,_,_=>fun x hx=>by cases hx
 | y::l,n,h,hn=>fun x hx=>by
  rw[Cj] at h;split at h
  ·have h1:=Gk l (n-(y.length+1));rcases List.mem_cons.1 hx with rfl|hx
   ·omega
   ·exact Lh l _ h (by omega) x hx
  ·omega
mutual
theorem Mv:∀ (x:Ak)(n:Int),WtP x→0<Dd x n→n≤65536→Dd x n+szP x≤n∧SwP x
 | .mk k a nm m s ls args,n,.mk hk h1 h2 h3 h4 h5 h6,h,hn=>by
  rw[Dd] at h ⊢;obtain⟨g1,g2⟩:=Pw args _ h6 h (by have:=Gk ls (n-(nm.length+s.length+1));omega);have g3:=Gk ls (n-(nm.length+s.length+1));have g4:=Hk args (Cj ls (n-(nm.length+s.length+1)));have g5:=Lh ls _ (by omega) (by omega:n-(nm.length+s.length+1)≤65536);simp only[szP];exact⟨by push_cast;omega,⟨by omega,inN_of hk.2.2,by omega,g5⟩,g2⟩
theorem Pw:∀ (l:List Ak)(n:Int),(∀ (i:Nat)(x:Ak),l[i]?=some x→WtP x)→0<Dh l n→n≤65536→Dh l n+Ey l≤n∧Qw l
 | [],n,_,h,_=>by rw[Dh] at h ⊢;simp only[Ey];exact⟨by omega,trivial⟩
 | x::l,n,hl,h,hn=>by
  rw[Dh] at h ⊢;split at h
  ·rename_i h0
   rw[if_pos h0];have g:=Is x n;obtain⟨g1,g2⟩:=Pw l _ (fun i y hy=>hl (i+1) y hy) h (by omega);have g5:=Hk l (Dd x n);obtain⟨g3,g4⟩:=Mv x n (hl 0 x rfl) (by omega) hn;simp only[Ey];exact⟨by push_cast;omega,g4,g2⟩
  ·omega
end
section
attribute [local go_sem ↓] Go.wp_at_zero Go.wp_at_succ
def LPC(N:Nat):Prop:=∀ (k a:Int)(nm:LB)(n:Int)(s:LB)(ls:List LB)(args:List Ak)(A5 A6:Option Addr)(c5 c6:Nat)(left:Int)(w:World)(ok:Nat→Prop),szP (.mk k a nm n s ls args)<N→WtP (.mk k a nm n s ls args)→Bd w ok (.mk k a nm n s ls args) [vI k,vI a,vS nm,vI n,vS s,.slice A5 ls.length c5,.slice A6 args.length c6]→-4503599627370496≤left→left≤65536 →
  Calls prog 13 #[.agg #[vI k,vI a,vS nm,vI n,vS s,.slice A5 ls.length c5,.slice A6 args.length c6],vI left] w fun e w'=>e = .returned (vI (Dd (.mk k a nm n s ls args) left))∧Fr [] w w'
theorem Xc(N:Nat)(ih:LPC N):LPC (N+1):=by
 intro k a nm n s ls args A5 A6 c5 c6 left w ok hN hW hx hlo hhi
 cases hW with
 | mk hk h1 h2 h3 h4 h5' h6' =>
 cases hx with
 | mk d5 d6 h5 e5 h6 e6 =>
 rw[show szP (.mk k a nm n s ls args)=1+Ey args by simp[szP]] at hN;have HN:=Hz hN;have IH:=Hz ih;have H5:=Hz h5;have H6:=Hz h6;have E5:Hid (∀ (i:Nat) (x:LB),ls[i]?=some x→d5 i=Of x):=Hz e5;have E6:Hid (∀ (i:Nat) (x:Ak),args[i]?=some x→Bd w ok x (d6 i)):=Hz e6;have H4:=Hz h4;have HW6:Hid (∀ (i:Nat) (x:Ak),args[i]?=some x→WtP x):=Hz h6';have b1:(nm.length:Int)≤140737488351232:=by unfold reachBytes at h1;omega
 have b2:(s.length:Int)≤140737488351232:=by unfold reachBytes at h2;omega
 have b3:(ls.length:Int)≤140737488351232:=by unfold reachBytes at h3;omega
 have b4:(args.length:Int)≤140737488351232:=by unfold reachBytes at h5';omega
 obtain⟨R,hR⟩:∃ R,Dd (.mk k a nm n s ls args) left=R:=⟨_,rfl⟩
 rw[hR];have HR:Hid (Dh (args.drop 0) (Cj (ls.drop 0) (left-(nm.length+s.length+1)))=R):=Hz (by rw[← hR,Dd];rfl);have f0:=(Fr.refl [] w).alloc (.cells #[vI k,vI a,vS nm,vI n,vS s,.slice A5 ls.length c5,.slice A6 args.length c6] 25);have q0:=Ad w (.cells #[vI k,vI a,vS nm,vI n,vS s,.slice A5 ls.length c5,.slice A6 args.length c6] 25);clear hN ih h5 e5 h6 e6 h1 h2 h3 h4 h5' h6' hk hR;go_enter func13,ntmps13;go_wp2_with fail
 generalize w.alloc (.cells #[vI k,vI a,vS nm,vI n,vS s,.slice A5 ls.length c5,.slice A6 args.length c6] 25)=x at *
 generalize hT:w.heap.size=T at *
 go_loopw [1,5] (fun lv iv wr=>∃ (i:Nat) (L:Int),lv=vI L∧iv=vI i∧i≤ls.length∧-9007199254740992≤L∧L≤65536∧Hid (Dh (args.drop 0) (Cj (ls.drop i) L)=R)∧wr=x) (fun lv iv wr=>ls.length-(intOf iv).toNat)
 case atStart=>exact⟨0,_,rfl,rfl,by omega,by omega,by omega,HR,rfl⟩
 case round =>
  obtain⟨i,L,rfl,rfl,hi,hl1,hl2,HI,rfl⟩:=hrel;clear HR;obtain⟨⟨l0,l1,l2,l3,l4,l5,l6⟩,_⟩:=Aq q0;have q1:(0:Int)≤(i:Int):=by omega
  by_cases hlt:i<ls.length∧0<L
  ·obtain⟨hlt,hL⟩:=hlt
   obtain⟨y,hy⟩:∃ y,ls[i]?=some y:=⟨ls[i],Lg' hlt⟩
   obtain⟨g,og,rfl,_,hg,_,_,hc⟩:=H5.out.row hlt;rw[E5.out i y hy] at hc;have x0:wr.cell? ⟨g,og+i,none⟩=some (vS y):=(f0.cell (p:=⟨g,og+i,none⟩) hg (fun x=>by cases x)).trans (by have:=hc 0 _ rfl;simpa using this);have hyl:(y.length:Int)≤140737488351232:=by have:=H4.out i y hy;unfold reachBytes at this;omega
   have hI:=HI.out;rw[Rl hy L hL] at hI;have HJ:=Hz hI;clear hc hy hI HI;have q2:(i:Int)<(ls.length:Int):=by omega
   go_wp2_with fail
   go_roundw
   case rel=>exact⟨i+1,_,rfl,by simp,by omega,by omega,by omega,HJ,(by first|rfl|trivial)⟩
   case measure=>simp[intOf];omega
  ·have HQ:Hid (Dh (args.drop 0) L=R):=Hz (by
    have:=HI.out
    by_cases h:i<ls.length
    ·rwa [Lg _ _ (by omega)] at this
    ·rwa [List.drop_eq_nil_of_le (show ls.length≤i by omega)] at this)
   clear HI;have hcc:¬ (i:Int)<(ls.length:Int)∨((i:Int)<(ls.length:Int)∧¬ 0<L):=by omega
   clear hlt
   rcases hcc with h1|⟨h1,h2⟩
   all_goals
    go_wp2_with fail
    try clear h2
    clear h1 q1 l0 l1 l2 l3 l4 l5 l6 hi
    have hw5:∃ w5,w5=wr:=⟨_,rfl⟩
    obtain⟨w5,hw5⟩:=hw5;subst hw5
    go_loopw [1,6] (fun lv iv wq=>∃ (i:Nat) (L:Int),lv=vI L∧iv=vI i∧i≤args.length∧L≤65536∧Hid (Dh (args.drop i) L=R)∧Fr [] w5 wq) (fun lv iv wq=>args.length-(intOf iv).toNat)
    case atStart=>exact⟨0,L,rfl,rfl,by omega,hl2,HQ,Fr.refl _ _⟩
    case round =>
     obtain⟨i,L,rfl,rfl,hi,hl2,HI,fr⟩:=hrel;clear HQ;have q1:(0:Int)≤(i:Int):=by omega
     have q3:=fr.keep q0 nE;obtain⟨⟨l0,l1,l2,l3,l4,l5,l6⟩,_⟩:=Aq q3;by_cases hlt:i<args.length∧0<L
     ·obtain⟨hlt,hL⟩:=hlt
      obtain⟨y,hy⟩:∃ y,args[i]?=some y:=⟨args[i],Lg' hlt⟩
      obtain⟨g,og,rfl,_,hg,_,_,hc⟩:=H6.out.row hlt;have hI:=HI.out;rw[longPs_at hy L hL] at hI;have hyy:=E6.out i y hy;have hwy:=HW6.out i y hy;have hzy:=Gz hy;have hle:=Is y L
      generalize d6 i=di at *
      have hyw:=hyy.keep (w':=wr) (ok':=ok) (Sh.of_fr (f0.trans fr) (fun b hb _=>⟨hb,fun x=>by cases x⟩))
      cases hyy with
      | @mk k2 a2 nm2 n2 s2 ls2 args2 v5 v6 _ _ r5 _ r6 _ =>
      obtain⟨A52,cc52,rfl⟩:=r5.form;obtain⟨A62,cc62,rfl⟩:=r6.form;clear r5 r6;have cX:=Hz (IH.out k2 a2 nm2 n2 s2 ls2 args2 A52 A62 cc52 cc62 L wr ok (by have:=HN.out;omega) hwy hyw (by omega) hl2);obtain⟨x0,x1,x2,x3,x4,x5,x6⟩:=Vs hg (f0.trans fr) hc;have HJ:=Hz hI
      generalize Dd (.mk k2 a2 nm2 n2 s2 ls2 args2) L=L2 at *
      clear hc hy hI HI hwy hyw hzy;have q2:(i:Int)<(args.length:Int):=by omega
      go_wp2_with fail;refine cX.out.mono ?_;rintro e w6 ⟨rfl,f6⟩;go_wp2_with fail
      go_roundw
      case rel=>exact⟨i+1,_,rfl,by simp,by omega,by omega,HJ,fr.trans f6⟩
      case measure=>simp[intOf];omega
     ·have hQ:L=R:=by
       have:=HI.out;by_cases h:i<args.length
       ·rwa [Pv _ _ (by omega)] at this
       ·rwa [List.drop_eq_nil_of_le (show args.length≤i by omega)] at this
      subst hQ;clear HI;have hcc:¬ (i:Int)<(args.length:Int)∨((i:Int)<(args.length:Int)∧¬ 0<L):=by omega
      clear hlt
      rcases hcc with h1|⟨h1,h2⟩
      all_goals
       go_wp2_with fail;go_ret;exact⟨rfl,f0.trans fr⟩
theorem Mu:∀ N,LPC N
 | 0=>by intro _ _ _ _ _ _ _ _ _ _ _ _ _ _ h;exact absurd h (Nat.not_lt_zero _)
 | N+1=>Xc N (Mu N)
end
theorem RIsName_any(s:ByteArray)(hs:s.size≤1000000)(w:World):
  Calls prog 102 #[.string s] w fun e w'=>e = .returned (.bool (As s.data.toList))∧Fr [] w w':=by
 by_cases h0:s.data.toList=[]
 ·have hz:s.size=0:=by rw[← Ba,h0];rfl
  rw[h0];go_enter func102,ntmps102;go_wp2_with fail;go_ret;exact⟨rfl,Fr.refl _ _⟩
 ·have hp:0<s.size:=by rw[← Ba];exact List.length_pos_iff.2 h0
  have h1:s.data.toList=s[0]::s.data.toList.drop 1:=by
   have:=C9 s 0 hp;simpa using this
  have hd:As s.data.toList=(Dl s[0]&&s.data.toList.all Cq && !Df s.data.toList):=by
   rw[h1];rfl
  have hrun:(((runEnd s 0:Nat):Int)==(s.size:Int))=s.data.toList.all Cq:=by
   unfold runEnd;rw[List.drop_zero,Nat.zero_add,Bool.eq_iff_iff,beq_iff_eq];constructor
   ·intro h;have h2:(Cc s.data.toList).length=s.data.toList.length:=by rw[Ba];omega
    have h3:Cc s.data.toList=s.data.toList:=(List.takeWhile_sublist _).eq_of_length h2;exact(Kv Cq _).1 h3
   ·intro h;have h3:Cc s.data.toList=s.data.toList:=(Kv Cq _).2 h;rw[h3,Ba]
  have e1:(decide ((97:Int)≤((s[0].toNat:Nat):Int))&&decide (((s[0].toNat:Nat):Int)≤122)||((s[0].toNat:Nat):Int)==95)=Dl s[0]:=by rw[← Cw];rfl
  rw[hd,← e1,← hrun];have c1:=Hz (letter_any ((s[0].toNat:Nat):Int) 97 122 w);have c2:=Hz (Rrun_any s hs 0 (Nat.zero_le _) w);have c3:=Hz (RIsWord_any s w);clear hd hrun e1 h1 h0
  generalize (decide ((97:Int)≤((s[0].toNat:Nat):Int))&&decide (((s[0].toNat:Nat):Int)≤122))=A at *
  generalize hR:runEnd s 0=R at *
  clear hR
  generalize Df s.data.toList=X at *
  cases A
  ·cases hb:((s[0].toNat:Nat):Int)==95
   ·go_enter func102,ntmps102;go_wp2_with fail;refine c1.out.mono ?_;rintro e x1 ⟨rfl,rfl⟩;go_wp2_with fail;go_ret;exact⟨rfl,Fr.refl _ _⟩
   ·cases hr:(((R:Nat):Int)==(s.size:Int))<;> cases X
    all_goals
     go_enter func102,ntmps102;go_wp2_with fail;refine c1.out.mono ?_;rintro e x1 ⟨rfl,rfl⟩;go_wp2_with fail;refine c2.out.mono ?_;rintro e x1 ⟨rfl,rfl⟩;go_wp2_with fail
     first
     | (go_ret;exact⟨rfl,Fr.refl _ _⟩)
     | (refine c3.out.mono ?_;rintro e x1 ⟨rfl,f1⟩;go_wp2_with fail;go_ret;exact⟨rfl,f1⟩)
  ·cases hr:(((R:Nat):Int)==(s.size:Int))<;> cases X
   all_goals
    go_enter func102,ntmps102;go_wp2_with fail;refine c1.out.mono ?_;rintro e x1 ⟨rfl,rfl⟩;go_wp2_with fail;refine c2.out.mono ?_;rintro e x1 ⟨rfl,rfl⟩;go_wp2_with fail
    first
    | (go_ret;exact⟨rfl,Fr.refl _ _⟩)
    | (refine c3.out.mono ?_;rintro e x1 ⟨rfl,f1⟩;go_wp2_with fail;go_ret;exact⟨rfl,f1⟩)
theorem RUpper_any(s:ByteArray)(hs:s.size≤900000)(w:World):
  Calls prog 103 #[.string s] w fun e w'=>e = .returned (.bool (Dm s.data.toList))∧Fr [] w w':=by
 by_cases h0:s.data.toList=[]
 ·have hz:s.size=0:=by rw[← Ba,h0];rfl
  rw[h0];go_enter func103,ntmps103;go_wp2_with fail;go_ret;exact⟨rfl,Fr.refl _ _⟩
 ·have hp:0<s.size:=by rw[← Ba];exact List.length_pos_iff.2 h0
  have hd:Dm s.data.toList=(Cf s[0]&&As (95::s.data.toList)):=by
   have h1:s.data.toList=s[0]::s.data.toList.drop 1:=by
    have:=C9 s 0 hp;simpa using this
   rw[h1];rfl
  have hcat:(⟨#[95]⟩++s:ByteArray).data.toList=95::s.data.toList:=by simp[ByteArray.data_append]
  have cN:=RIsName_any (⟨#[95]⟩++s) (by rw[← Ba,hcat,Lc',Ba];omega) w;rw[hcat] at cN;have CN:=Hz cN;rw[hd];clear hd hcat cN
  have hg:Cf s[0]=(decide (65≤s[0].toNat)&&decide (s[0].toNat≤90)):=by
   unfold Cf;rfl
  by_cases h1:65≤s[0].toNat
  ·by_cases h2:s[0].toNat≤90
   ·have hg:Cf s[0]=true:=by rw[hg];simp[h1,h2]
    rw[hg];go_enter func103,ntmps103;go_wp2_with fail;refine CN.out.mono ?_;rintro e w1 ⟨rfl,hf⟩;go_wp2_with fail;go_ret;exact⟨rfl,hf⟩
   ·have hg:Cf s[0]=false:=by rw[hg];simp[h2]
    rw[hg];go_enter func103,ntmps103;go_wp2_with fail;go_ret;exact⟨rfl,Fr.refl _ _⟩
  ·have hg:Cf s[0]=false:=by rw[hg];simp[h1]
   rw[hg];go_enter func103,ntmps103;go_wp2_with fail;go_ret;exact⟨rfl,Fr.refl _ _⟩
theorem Rtruth_any(n:Int)(w:World):
  Calls prog 69 #[vI n] w fun e w'=>e = .returned (.string ⟨(Fs n).toArray⟩)∧w'=w:=by
 by_cases h:n=1
 ·subst h;go_enter func69,ntmps69;go_wp2_with fail;go_ret;exact⟨rfl,rfl⟩
 ·have e:Fs n=[102,97,108,115,101]:=by simp[Fs,h]
  rw[e];go_enter func69,ntmps69;go_wp2_with fail;go_ret;exact⟨rfl,rfl⟩
def upOne(q:Int×Nat):Int×Nat:=(q.1,q.2+1)
mutual
theorem partsP_up:∀ (x:Ak)(d:Nat),Bz x (d+1)=(Bz x d).map upOne
 | .mk _ _ _ _ _ _ args,d=>by simp[Bz,partsPs_up args (d+1),upOne]
theorem partsPs_up:∀ (l:List Ak)(d:Nat),C6 l (d+1)=(C6 l d).map upOne
 | [],d=>by simp[C6]
 | x::l,d=>by simp[C6,partsP_up x d,partsPs_up l d]
end
def bndL(l:List (Int×Nat)):Int:=if 4096<l.length then 3 else if (l.any fun p=>decide (200<p.2))=true then 22 else 0
def refPR(p:Ak):LB×Int:=if bndL ((Bz p 1).take 4097)=0 then E0 (Ct p) (txP p)else ([],bndL ((Bz p 1).take 4097))
theorem wrap_sz(p:Ak):szE (Kw p)=szP p+2:=by simp[Kw,szE,B1,Cd,szA];omega
theorem wrap_deep(p:Ak):(Dz 201 (Kw p)).isSome=(Bz p 1).any fun q=>decide (200<q.2):=by
 unfold Dz Kw;rw[Ke,Bool.eq_iff_iff,List.find?_isSome,List.any_eq_true];simp only[C5,B9,Mz,List.nil_append,List.append_nil,Ke,partsP_up,List.mem_cons,List.mem_append,List.mem_map,List.not_mem_nil,or_false,decide_eq_true_eq];constructor
 ·rintro⟨x,rfl|⟨y,hy,rfl⟩| rfl,h⟩
  ·simp at h
  ·exact⟨y,hy,by simp[upOne] at h;omega⟩
  ·simp at h
 ·rintro⟨y,hy,h⟩;exact⟨upOne y,.inr (.inl ⟨y,hy,rfl⟩),by simp[upOne];omega⟩
theorem refPR_eq(p:Ak):refPR p=Ij p:=by
 unfold refPR Ij bndL;rw[wrap_sz,wrap_deep,List.length_take,P0];by_cases h:4096<szP p
 ·rw[if_pos (show 4096<min 4097 (szP p) by omega),if_neg (by decide),if_pos (by omega)]
 ·rw[if_neg (show ¬ 4096<min 4097 (szP p) by omega),if_neg (show ¬ 4098<szP p+2 by omega),List.take_of_length_le (by rw[P0];omega)]
  cases (Bz p 1).any fun q=>decide (200<q.2)with
  | false=>simp
  | true=>simp
end Go.Proofs.YtabhpdhajajoiaaGreatDoor
