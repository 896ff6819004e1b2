/- A part of the proof: short names, rows said once. -/
import Derived.WalkKit
import Derived.WalkSpells
import Derived.WalkLawsBesides
import Derived.Sort.Grow
import Derived.Lib.Hide
import Derived.Lib.ItoaNum
import Derived.Lib.SlTrimSet
import Derived.Lib.ParseIntB
import Derived.Lib.AppendStr
import Derived.Lib.Builder
import Derived.Lib.Bytes
import Derived.Lib.UnsafeStr
import Derived.Laws.Externs
import Derived.Laws.BytesString
import Derived.Laws.BytesArg
import Derived.Lib.ItoaLen
import Derived.Shelf.Strings.SlTrimAscii
import Derived.Lib.ConvBytes
import Derived.Deep.RegionWith
import Derived.Lib.OthersKept
import Derived.Lib.IndexMore
import Derived.Lib.IndexBytes
import Derived.RangeFuncNested
import Derived.RangeFuncBound
import Derived.RangeFuncCalls
import Derived.RangeFuncLeaves
import Derived.Shelf.Abstract
import Derived.Shelf.RegionOpen
import Derived.OwnWalkIn
import Derived.TacticsInMore
import Derived.LoopNIn
import Derived.LoopIn
import Derived.BigQuiet
import Derived.Deep.QuietTactic
import Derived.IntWalk
import Derived.Deep.AppendLies
import Derived.Deep.RegionHeld3
import Derived.RegionTactic
import Derived.ChangeAlike
import Derived.BigRegion
import Derived.Deep.DrawnRows
import Derived.SizedLaws
import Derived.Shelf.Vars
import Derived.ProofKit
import Derived.OpenShut
import Derived.LaidMore
import Derived.Carry
import Derived.Deep.DeepHandedRow
import Derived.Deep.DeepWitnessRowRef
import Derived.Lib.LaidTab
import Derived.Lib.LaidU8
import Derived.Stop.LaidErr
import Derived.Lib.SliceRun
import GoSem.ClaimJoined
import Derived.Defers
import Derived.Deep.Slices
import Derived.ChangeArms
import Derived.KernelRfl
import Derived.OrdersHeld
import Derived.Shelf.RegionOpenPlain
import Derived.Recover
import Derived.Laws.Pointers
namespace Go.Proofs.YtlafbbnikgcdlaaGreatDoor
open Go.RowKit
abbrev vI(n:Int):Value:=.int .i64 n
abbrev vS(l:List UInt8):Value:=.string ⟨l.toArray⟩
abbrev vZ:Value:=.slice none 0 0
abbrev vE:Value:=.string ⟨#[]⟩
abbrev LB:=List UInt8
theorem Hz{p:Prop}(h:p):Hid p:=Lib.hid h
theorem nE{α:Type}{x:α}:¬x∈([]:List α):=List.not_mem_nil
theorem sX:(∀{α:Type}{l:List α}{i:Nat}{a:α},l.toArray.setIfInBounds i a=(l.set i a).toArray)∧(∀{α:Type}{l:List α}{a b:α},(a::l).set 0 b=b::l)∧(∀{α:Type}{l:List α}{n:Nat}{a b:α},(a::l).set (n+1) b=a::l.set n b):=⟨by intros;simp,by intros;rfl,by intros;rfl⟩
theorem kR{p:Prop}(h:p:=by kernel_rfl):p:=h
theorem oM{p:Prop}(h:p:=by omega):p:=h
theorem sM{p:Prop}(h:p:=by simp):p:=h
theorem sO{p:Prop}(h:p:=by simp;omega):p:=h
theorem dC{p:Prop}(h:p:=by decide):p:=h
theorem aS{p:Prop}(h:p:=by assumption):p:=h
theorem rF{p:Prop}(h:p:=by rfl):p:=h
theorem bN{α:Type}[BEq α][LawfulBEq α]{a b:α}:(a==b)=false↔a≠b:=beq_eq_false_iff_ne
set_option linter.all false
set_option maxRecDepth 100000
variable{p:Prop}
theorem nn33(h:p:=by
 exact qq51):p:=h
theorem nn34(h:p:=by
 exact qq138):p:=h
theorem nn61(h:p:=by
 have HT:=Hz ht;have kqq39:=@Hz _ @nn132;exact qq39):p:=h
theorem nn107(h:p:=by
 generalize hTT1:x1.heap.size=T3 at *
 have g0:=fb1.keep g0 nE;have h2:=hst1.fr fb1;have F2:=F1.trans0 fb1;have hx1:=hx1.keep (ok':=fun b=>B<b∧¬ b=T3) (Sh.of_fr fb1 (fun b hb hlt=>⟨⟨oM,oM⟩,fun x=>by cases x⟩));obtain⟨t,ht⟩:=Bn hst1.inb;refine(Cr P g c ts st1 t ht x2 h2 HE.out).mono ?_;rintro e x3 ⟨rfl,f3⟩;go_wp2_with fail;have q4:=Ag x3 (.cells #[vI t.k,vI t.at',.string ⟨t.text.toArray⟩,vI t.n] 52);have fb4:Fr [] x3 (x3.alloc (.cells #[vI t.k,vI t.at',.string ⟨t.text.toArray⟩,vI t.n] 52)):=(Fr.refl [] x3).alloc _
 generalize hY4:x3.alloc (.cells #[vI t.k,vI t.at',.string ⟨t.text.toArray⟩,vI t.n] 52)=x4 at *
 have hT4:=Aa q4
 generalize hTT4:x3.heap.size=T4 at *
 have f4:=f3.trans fb4;have g0:=f4.keep g0 nE;have q1:=f4.keep q1 nE;have h4:=h2.fr f4;have F4:=F2.trans0 f4;have hs3:=f3.size;have hx1:=hx1.keep (ok':=fun b=>B<b∧¬ b=T3∧¬ b=T4) (Sh.of_fr f4 (fun b hb hlt=>⟨⟨hb.1,hb.2,oM⟩,fun x=>by cases x⟩));exact kqq17.out):p:=h
theorem nn112(h:p:=by
 refine Db 9 (fun w'=>(w'.cell? ⟨C,0,none⟩=some (vI k2)∧w'.cell? ⟨C,1,none⟩=some (vI a2)∧w'.cell? ⟨C,2,none⟩=some (vS nm2)∧w'.cell? ⟨C,3,none⟩=some (vI n2)∧w'.cell? ⟨C,4,none⟩=some (vS s2)∧w'.cell? ⟨C,5,none⟩=some (.slice A52 ls2.length c52)∧w'.cell? ⟨C,6,none⟩=some (.slice A62 args2.length c62))∧w'.cell? ⟨T,5,none⟩=some (.slice A9 i c9)) kR kR rfl ⟨⟨e0,e1,e2,e3,e4,e5,e6⟩,l5⟩ (fun K hK hHeld=>?hspq1);dsimp only[List.take];refine Af (i:=0) (v:=?vpq1_0) rfl kR kR kR (fun _ _ _ h=>h) (Or.inl ⟨by rfl,?ypq1_0⟩) hHeld ?rpq1_0
 case ypq1_0 =>
  exact qq54
 (try simp only[Act.put,sX])
 refine Af (i:=1) (v:=?vpq1_1) rfl kR kR kR (fun _ _ _ h=>h) (Or.inl ⟨by rfl,?ypq1_1⟩) hHeld ?rpq1_1
 case ypq1_1 =>
  exact qq54
 (try simp only[Act.put,sX])
 refine Af (i:=2) (v:=?vpq1_2) rfl kR kR kR (fun _ _ _ h=>h) (Or.inl ⟨by rfl,?ypq1_2⟩) hHeld ?rpq1_2
 case ypq1_2 =>
  exact qq54
 (try simp only[Act.put,sX])
 refine Af (i:=3) (v:=?vpq1_3) rfl kR kR kR (fun _ _ _ h=>h) (Or.inl ⟨by rfl,?ypq1_3⟩) hHeld ?rpq1_3
 case ypq1_3 =>
  exact qq54
 (try simp only[Act.put,sX])
 refine Af (i:=4) (v:=?vpq1_4) rfl kR kR kR (fun _ _ _ h=>h) (Or.inl ⟨by rfl,?ypq1_4⟩) hHeld ?rpq1_4
 case ypq1_4 =>
  exact qq54
 (try simp only[Act.put,sX])
 refine Am (i:=5) rfl kR (fun K1 hK1=>?tpq1_5);have kqq238:=@Hz _ @nn458;exact qq238):p:=h
theorem nn132(h:p:=by
 have hPB:P<B:=by omega
 have hgB:g<B:=by omega
 have hBw:w.heap.size≤B:=by omega
 have hBT3:B<T3:=by have:=(f0.trans f3).size;have:=Aa g0;omega
 clear f0 f3 fb4;refine(may_no [108,101,116] P g c ts st t HT.out HB0.out x4 h4 HE.out).mono ?_;have kqq229:=@Hz _ @nn433;exact qq229):p:=h
theorem nn157(h:p:=by
 have kqq208:=@Hz _ @nn406;exact qq208):p:=h
theorem nn161(h:p:=by
 exact kqq18.out):p:=h
theorem nn181(h:p:=by
 go_enter func30,ntmps30;have kqq18:=@Hz _ @nn61;exact qq18):p:=h
theorem nn197(h:p:=by
 refine(Da _ _).mono ?_;rintro e x1 ⟨rfl,rfl⟩;go_wp2_with fail;exact kqq13.out):p:=h
theorem nn282(h:p:=by
 refine hK1.out _ _ (⟨M9,u5⟩) (fun hHeld=>?upq1_7);clear hK1 K1
 (try simp only[Act.put,sX])
 refine Af (i:=8) (v:=?vpq1_8) rfl kR kR kR (fun _ _ _ h=>h) (Or.inl ⟨by rfl,?ypq1_8⟩) hHeld ?rpq1_8
 case ypq1_8 =>
  exact qq54
 exact qq21):p:=h
theorem nn286(h:p:=by
 have hZ:Fr [w.heap.size+1,w.heap.size+1+1] x9 (((((((((x9.setCell ⟨w.heap.size+1+1,6,none⟩ (.slice (some ⟨x9.heap.size,0,none⟩) 2 2)).setCell ⟨w.heap.size+1,0,none⟩ (vI 9)).setCell ⟨w.heap.size+1,1,none⟩ (vI a)).setCell ⟨w.heap.size+1,2,none⟩ (vI S1.n)).setCell ⟨w.heap.size+1,3,none⟩ (vI 0)).setCell ⟨w.heap.size+1,4,none⟩ (vE)).setCell ⟨w.heap.size+1,5,none⟩ (vZ)).setCell ⟨w.heap.size+1,6,none⟩ (.slice (some ⟨x9.heap.size,0,none⟩) 2 2)).setCell ⟨w.heap.size+1,7,none⟩ (vZ)):=((((((((((Fr.refl [w.heap.size+1,w.heap.size+1+1] x9).setCell (p:=⟨w.heap.size+1+1,6,none⟩) (.inl sM) (.slice (some ⟨x9.heap.size,0,none⟩) 2 2)).setCell (p:=⟨w.heap.size+1,0,none⟩) (.inl sM) (vI 9)).setCell (p:=⟨w.heap.size+1,1,none⟩) (.inl sM) (vI a)).setCell (p:=⟨w.heap.size+1,2,none⟩) (.inl sM) (vI S1.n)).setCell (p:=⟨w.heap.size+1,3,none⟩) (.inl sM) (vI 0)).setCell (p:=⟨w.heap.size+1,4,none⟩) (.inl sM) (vE)).setCell (p:=⟨w.heap.size+1,5,none⟩) (.inl sM) (vZ)).setCell (p:=⟨w.heap.size+1,6,none⟩) (.inl sM) (.slice (some ⟨x9.heap.size,0,none⟩) 2 2)).setCell (p:=⟨w.heap.size+1,7,none⟩) (.inl sM) (vZ))
 have hsz:(((((((((x9.setCell ⟨w.heap.size+1+1,6,none⟩ (.slice (some ⟨x9.heap.size,0,none⟩) 2 2)).setCell ⟨w.heap.size+1,0,none⟩ (vI 9)).setCell ⟨w.heap.size+1,1,none⟩ (vI a)).setCell ⟨w.heap.size+1,2,none⟩ (vI S1.n)).setCell ⟨w.heap.size+1,3,none⟩ (vI 0)).setCell ⟨w.heap.size+1,4,none⟩ (vE)).setCell ⟨w.heap.size+1,5,none⟩ (vZ)).setCell ⟨w.heap.size+1,6,none⟩ (.slice (some ⟨x9.heap.size,0,none⟩) 2 2)).setCell ⟨w.heap.size+1,7,none⟩ (vZ)).heap.size=x9.heap.size:=by simp[World.setCell]
 have hG:=Aq (x:=x9.setCell ⟨w.heap.size+1+1,6,none⟩ (.slice (some ⟨x9.heap.size,0,none⟩) 2 2)) (((Fr.refl [w.heap.size+1+1] x9).setCell (p:=⟨w.heap.size+1+1,6,none⟩) (.inl sM) (.slice (some ⟨x9.heap.size,0,none⟩) 2 2)).keep HT9.out.r (by simp only[List.mem_singleton];omega)) (vI 9) (vI a) (vI S1.n) (vI 0) (vE) (vZ) (.slice (some ⟨x9.heap.size,0,none⟩) 2 2) (vZ);unfold st8 at hG
 generalize ((((((((x9.setCell ⟨w.heap.size+1+1,6,none⟩ (.slice (some ⟨x9.heap.size,0,none⟩) 2 2)).setCell ⟨w.heap.size+1,0,none⟩ (vI 9)).setCell ⟨w.heap.size+1,1,none⟩ (vI a)).setCell ⟨w.heap.size+1,2,none⟩ (vI S1.n)).setCell ⟨w.heap.size+1,3,none⟩ (vI 0)).setCell ⟨w.heap.size+1,4,none⟩ (vE)).setCell ⟨w.heap.size+1,5,none⟩ (vZ)).setCell ⟨w.heap.size+1,6,none⟩ (.slice (some ⟨x9.heap.size,0,none⟩) 2 2)).setCell ⟨w.heap.size+1,7,none⟩ (vZ)=Z at *
 have hX9:Au (x9.alloc (.cells #[vI k1,vI a1,vI v1,vI n1,.string ⟨s1⟩,.slice B51 n51 e51,.slice B61 n61 e61,.slice B71 n71 e71,vI k3,vI a3,vI v3,vI n3,.string ⟨s3⟩,.slice B53 n53 e53,.slice B63 n63 e63,.slice B73 n73 e73] 34)) (TOk (w.heap.size+3) _) _ [vI 9,vI a,vI S1.n,vI 0,vE,vZ,.slice (some ⟨x9.heap.size,0,none⟩) 2 2,vZ]:=Au.of_rows (c5:=fun _=>[]) (c7:=fun _=>[]) An.nil_ (Qt HXX.out HXY.out HT9.out.sz HT9.out.st.1.own_lt) An.nil_;have kqq231:=@Hz _ @nn438;exact qq231):p:=h
theorem nn294(h:p:=by
 exact kqq38.out):p:=h
theorem nn295(h:p:=by
 have rowE:=An.keep (ok':=fun b=>B<b) Jh rowE (Sh.of_fr fm (fun b hb hlt=>⟨hb.1.1,by simp;exact hb.1.2.2⟩));have rowS:=An.keep (ok':=fun b=>B<b) Cg rowS (Sh.of_fr fm (fun b hb hlt=>⟨hb.1.1,by simp;exact hb.1.2.2⟩));have kqq252:=@Hz _ @nn502;exact qq252):p:=h
theorem nn296(h:p:=by
 have rowE:=An.keep (ok':=fun b=>B<b) As rowE (Sh.of_fr fm (fun b hb hlt=>⟨hb.1.1,by simp;exact hb.1.2.2⟩));have rowS:=An.keep (ok':=fun b=>B<b) Cg rowS (Sh.of_fr fm (fun b hb hlt=>⟨hb.1.1,by simp;exact hb.1.2.2⟩));have kqq336:=@Hz _ @nn632;exact qq336):p:=h
theorem nn315(h:p:=by
 generalize (((((((y3.setCell ⟨B,0,none⟩ (vI 0)).setCell ⟨B,1,none⟩ (vI 0)).setCell ⟨B,2,none⟩ (vE)).setCell ⟨B,3,none⟩ (vI 0)).setCell ⟨B,4,none⟩ (vE)).setCell ⟨B,5,none⟩ (vZ)).setCell ⟨B,6,none⟩ (vZ)).setCell ⟨B,7,none⟩ (vZ)=Z at HG HF HP HX ⊢;obtain⟨⟨d0,d1,d2,d3,d4,d5,d6,d7⟩,_⟩:=Ac HG.out;exact kqq58.out):p:=h
theorem nn316(h:p:=by
 generalize (((((((x6.setCell ⟨B,0,none⟩ (vI k2)).setCell ⟨B,1,none⟩ (vI a2)).setCell ⟨B,2,none⟩ (vS nm2)).setCell ⟨B,3,none⟩ (vI n2)).setCell ⟨B,4,none⟩ (vS s2)).setCell ⟨B,5,none⟩ (.slice A52 n52 c52)).setCell ⟨B,6,none⟩ (.slice A62 n62 c62)).setCell ⟨B,7,none⟩ (.slice A72 n72 c72)=Z at HG HF HP HX ⊢;obtain⟨⟨d0,d1,d2,d3,d4,d5,d6,d7⟩,_⟩:=Ac HG.out;exact kqq19.out):p:=h
theorem nn323(h:p:=by
 generalize (((((((y1.setCell ⟨B,0,none⟩ (vI k0)).setCell ⟨B,1,none⟩ (vI a0)).setCell ⟨B,2,none⟩ (vS nm0)).setCell ⟨B,3,none⟩ (vI n0)).setCell ⟨B,4,none⟩ (vS s0)).setCell ⟨B,5,none⟩ (.slice A50 n50 c50)).setCell ⟨B,6,none⟩ (.slice A60 n60 c60)).setCell ⟨B,7,none⟩ (.slice A70 n70 c70)=Z at HG HF HP HX ⊢;obtain⟨⟨d0,d1,d2,d3,d4,d5,d6,d7⟩,_⟩:=Ac HG.out;exact kqq16.out):p:=h
theorem nn324(h:p:=by
 generalize (((((((x5.setCell ⟨B,0,none⟩ (vI k1)).setCell ⟨B,1,none⟩ (vI a1)).setCell ⟨B,2,none⟩ (vS nm1)).setCell ⟨B,3,none⟩ (vI n1)).setCell ⟨B,4,none⟩ (vS s1)).setCell ⟨B,5,none⟩ (.slice A51 n51 c51)).setCell ⟨B,6,none⟩ (.slice A61 n61 c61)).setCell ⟨B,7,none⟩ (.slice A71 n71 c71)=Z at HG HF HP HX ⊢;obtain⟨⟨d0,d1,d2,d3,d4,d5,d6,d7⟩,_⟩:=Ac HG.out;exact kqq12.out):p:=h
theorem nn327(h:p:=by
 have hx0:=hx0.keep (ok':=fun b=>B<b∧¬ b=T3∧¬ b=P∧b<y3.heap.size) (Sh.of_fr fb5 (fun b hb hlt=>⟨⟨hb.1,hb.2.1,hb.2.2,by have:=fb5.size;omega⟩,fun x=>by cases x⟩));exact kqq60.out):p:=h
theorem nn338(h:p:=by
 go_loopw [56] (fun iv wr=>∃ (i:Nat) (A9:Option Addr) (c9:Nat) (cs:Nat→List Value) (A':Option Addr) (c':Nat),iv=vI i∧i≤args.length∧Hid (wr.heap[R]?=some Ep)∧Hid (wr.heap[T]?=some (.cells #[vI k,vI V,vI n,vS sx,.slice A4 lsx.length c4,.slice A9 i c9] 76 (0,0)))∧Hid (Gc wr (TOk X5 A') (.slice A9 i c9) (Bt (args.take i) m SP).1 cs)∧Hid (Stp w0 P A w (Bt (args.take i) m SP).2 A' c' wr)∧Hid (Gp wr (LOk (w.heap.size+3) X5 A') (.slice A4 lsx.length c4) lsx cs4)∧Hid (∀ a,A'=some a→a.block<w.heap.size∨w.heap.size+3≤a.block)∧Hid (X5≤wr.heap.size)) (fun iv wr=>args.length-(intOf iv).toNat)
 case atStart=>exact⟨0,none,0,fun _=>[],A1,c1,rfl,oM,G1,G2,Hz An.nil_,ST,LB,HA,Hz oM⟩
 case round =>
  obtain⟨i,A9,c9,cs,A',c',rfl,hi,K1,K2,KR,KS,KL,KA,KZ⟩:=hrel;clear G1 G2 ST LB HA;have hz5:=Z5.out;have q1:(0:Int)≤(i:Int):=by omega
  by_cases hlt:i<args.length
  ·have kqq34:=@Hz _ @nn112;exact qq34
  ·exact qq47):p:=h
theorem nn339(h:p:=by
 have kqq13:=@Hz _ @nn33;exact qq13):p:=h
theorem nn365(h:p:=by
 clear h52 e52 h62 e62 h72 e72 e82;have x0:wr.cell? ⟨g,og+i * 8,none⟩=some (vI k2):=hcell 0 _ rfl;have x1:wr.cell? ⟨g,og+i * 8+1,none⟩=some (vI a2):=hcell 1 _ rfl;have x2:wr.cell? ⟨g,og+i * 8+2,none⟩=some (vS nm2):=hcell 2 _ rfl;have x3:wr.cell? ⟨g,og+i * 8+3,none⟩=some (vI n2):=hcell 3 _ rfl;have x4:wr.cell? ⟨g,og+i * 8+4,none⟩=some (vS s2):=hcell 4 _ rfl;have x5:wr.cell? ⟨g,og+i * 8+5,none⟩=some (.slice A52 m52 cc52):=hcell 5 _ rfl;have x6:wr.cell? ⟨g,og+i * 8+6,none⟩=some (.slice A62 m62 cc62):=hcell 6 _ rfl;have x7:wr.cell? ⟨g,og+i * 8+7,none⟩=some (.slice A72 m72 cc72):=hcell 7 _ rfl;have hsz2:=Kd HY.out;have cP:=fun W (hW:Fr [] wr W)=>Hz (IH.out k2 a2 nm2 n2 s2 ls2 args2 arms2 (.slice A52 m52 cc52) (.slice A62 m62 cc62) (.slice A72 m72 cc72) (d+1) (D+1) W τ (by have:=HN.out;omega) (by rw[HD.out];simp) oM (by have:=f.size;have:=hW.size;omega) (hyw.keep (Sh.of_fr hW (fun b hb hlt=>⟨hb,fun x=>by cases x⟩))) (hs.fr hW) hok.out)
 have hDQ:=HDQ.out;clear hcell hci hcc hcs hcl hyw hg;have q1:(0:Int)≤(i:Int):=by omega
 have q2:(i:Int)<(args.length:Int):=by omega
 have q0:=Hz q0;go_wp2_with fail;have fb:Fr [] wr (wr.alloc (.cells #[vI k2,vI a2,vS nm2,vI n2,vS s2,.slice A52 m52 cc52,.slice A62 m62 cc62,.slice A72 m72 cc72] 27)):=(Fr.refl [] wr).alloc _;refine(cP _ fb).out.mono ?_;rintro e w3 ⟨rfl,hs3,f3⟩;clear x0 x1 x2 x3 x4 x5 x6 x7 cP hDQ;have q0:=f3.keep (Ae q0.out (.cells #[vI k2,vI a2,vS nm2,vI n2,vS s2,.slice A52 m52 cc52,.slice A62 m62 cc62,.slice A72 m72 cc72] 27)) sO;exact kqq28.out):p:=h
theorem nn366(h:p:=by
 clear h52 e52 h62 e62 h72 e72 e82 h53 e53 h63 e63;have x0:wr.cell? ⟨g,og+i * 15,none⟩=some (vI k3):=hcell 0 _ rfl;have x1:wr.cell? ⟨g,og+i * 15+1,none⟩=some (vI a3):=hcell 1 _ rfl;have x2:wr.cell? ⟨g,og+i * 15+2,none⟩=some (vS nm3):=hcell 2 _ rfl;have x3:wr.cell? ⟨g,og+i * 15+3,none⟩=some (vI n3):=hcell 3 _ rfl;have x4:wr.cell? ⟨g,og+i * 15+4,none⟩=some (vS s3):=hcell 4 _ rfl;have x5:wr.cell? ⟨g,og+i * 15+5,none⟩=some (.slice A53 m53 cc53):=hcell 5 _ rfl;have x6:wr.cell? ⟨g,og+i * 15+6,none⟩=some (.slice A63 m63 cc63):=hcell 6 _ rfl;have x7:wr.cell? ⟨g,og+i * 15+7,none⟩=some (vI k2):=hcell 7 _ rfl;have x8:wr.cell? ⟨g,og+i * 15+8,none⟩=some (vI a2):=hcell 8 _ rfl;have x9:wr.cell? ⟨g,og+i * 15+9,none⟩=some (vS nm2):=hcell 9 _ rfl;have x10:wr.cell? ⟨g,og+i * 15+10,none⟩=some (vI n2):=hcell 10 _ rfl;have x11:wr.cell? ⟨g,og+i * 15+11,none⟩=some (vS s2):=hcell 11 _ rfl;have x12:wr.cell? ⟨g,og+i * 15+12,none⟩=some (.slice A52 m52 cc52):=hcell 12 _ rfl;have x13:wr.cell? ⟨g,og+i * 15+13,none⟩=some (.slice A62 m62 cc62):=hcell 13 _ rfl;have x14:wr.cell? ⟨g,og+i * 15+14,none⟩=some (.slice A72 m72 cc72):=hcell 14 _ rfl;have hsz2:=Kc HY.out;exact kqq26.out):p:=h
theorem nn386(h:p:=by
 clear cC m0 m1 m2 m3 y0 y1 y2 y3 hcm c0 hcap hml mm1 mm2 mm3
 all_goals
  have hnn:∀ b,w.heap.size≤b→b ∉ scL P A:=fun b hb hx=>by
   rcases Ay.1 hx with e|⟨a,e,e2⟩
   ·omega
   ·have:=H.out.own_lt a e;omega
  have hS6:=H.out.fr0 (f0.trans f6);have Q0:=f6.keep g0 nE;have Q1:=f6.keep g1 nE;have Q2:=f6.keep g2 nE;have hz6:=f6.size;have F6:=Hz (f0.trans f6);clear g0 g1 g2 f6 f0
  obtain⟨SF,hSF⟩:∃ SF,SF=(if RR=true then S.fail 24 a else S):=⟨_,rfl⟩
  have HSF:=Hz hSF;have HGR:Hid (Gr S SF 0):=Hz (by rw[hSF];split;exact Gr.fail _ _ _;exact Gr.refl _);have HSN:Hid (SF.l=S.l∧SF.n=S.n):=Hz (by rw[hSF];split;exact Lr _ _ _;exact⟨rfl,rfl⟩);clear hSF;obtain rfl:=HRX.out;clear HRX
  have h7:Stp w0 P A x6 SF A c x6:=by
   have e7:SF=S:=by rw[HSF.out];simp
   rw[e7];exact Stp.refl hS6
  generalize hx7:x6=x7 at *
  all_goals
   exact qq29
 all_goals
  exact qq1):p:=h
theorem nn387(h:p:=by
 clear cC m0 m1 m2 m3 y0 y1 y2 y3 hcm c0 hcap hml mm1 mm2 mm3
 all_goals
  have hnn:∀ b,w.heap.size≤b→b ∉ scL P A:=fun b hb hx=>by
   rcases Ay.1 hx with e|⟨a,e,e2⟩
   ·omega
   ·have:=H.out.own_lt a e;omega
  have hS6:=H.out.fr0 (f0.trans f6);have Q0:=f6.keep g0 nE;have Q1:=f6.keep g1 nE;have Q2:=f6.keep g2 nE;have hz6:=f6.size;have F6:=Hz (f0.trans f6);clear g0 g1 g2 f6 f0
  obtain⟨SF,hSF⟩:∃ SF,SF=(if RR=true then S.fail 24 a else S):=⟨_,rfl⟩
  have HSF:=Hz hSF;have HGR:Hid (Gr S SF 0):=Hz (by rw[hSF];split;exact Gr.fail _ _ _;exact Gr.refl _);have HSN:Hid (SF.l=S.l∧SF.n=S.n):=Hz (by rw[hSF];split;exact Lr _ _ _;exact⟨rfl,rfl⟩);clear hSF;obtain rfl:=HRX.out;clear HRX;obtain⟨⟨l0,l1,l2,l3,l4,l5,l6⟩,_⟩:=Ao Q0;go_wp2_with fail;refine(Qu hS6 24 a).mono ?_;rintro e x7 ⟨rfl,h7⟩;clear l0 l1 l2 l3 l4 l5 l6;have e7:S.fail 24 a=SF:=by rw[HSF.out];simp
  rw[e7] at h7
  all_goals
   exact qq29
 all_goals
  exact qq1):p:=h
theorem nn390(h:p:=by
 have hB1:=Aa g0;have nP:¬ P=B:=by omega
 have nB:¬ B=P:=by omega
 have ng:¬ g=B:=by omega
 exact kqq56.out):p:=h
theorem nn403(h:p:=by
 refine(must_no _).mono ?_;rintro e w6 ⟨rfl,hf⟩;go_wp2_with fail;exact⟨rfl,Sd.gave (by rw[← HO.out];rfl) (hb.frame.trans hf)⟩):p:=h
theorem nn404(h:p:=by
 refine(must_yes _).mono ?_;rintro e w6 ⟨rfl,rfl⟩;go_wp2_with fail;refine(cR _ _ hb).out.mono ?_;rintro e w7 (⟨hok,rfl,hb⟩| ⟨hok,rfl,hf⟩)
 ·go_wp2_with fail
  go_end0
  exact Sd.done (by rw[← HO.out,hok];rfl) rfl hb.drop
 ·go_wp2_with fail;exact⟨rfl,Sd.gave (by rw[← HO.out,hok];rfl) hf⟩):p:=h
theorem nn406(h:p:=by
 have HT2:=Hz T2;have HX2:=Hz hX2;clear cB T1' T2 hX1'' hX2 hst2 hSB2 hnD hAl fD;go_wp2_with fail;have Tb:TSt w0 P A w (.cells #[vI k,vI a,vS nm,vI n,vS s,.slice A5 ls.length c5,.slice (some ⟨g,o,none⟩) args.length c6,.slice A7 arms.length c7] 27) #[vI 9,vI a,vI S1.n,vI 0,vE,vZ,vZ,vZ] S2 A2 c2 (x8.setCell ⟨w.heap.size+1+1,2,none⟩ (vI S1.n)):=HT2.out.set hP HLE.out 2 (vI S1.n);have hXb:Au (x8.setCell ⟨w.heap.size+1+1,2,none⟩ (vI S1.n)) (TOk (w.heap.size+3) A2) X [vI k1,vI a1,vI v1,vI n1,.string ⟨s1⟩,.slice B51 n51 e51,.slice B61 n61 e61,.slice B71 n71 e71]:=HX2.out.keep (Mn (Nr' _) 2 (vI S1.n));have pDb:=(TSt.rows HT2.out 2 (vI S1.n)).keep pD2 (by simp only[List.mem_singleton];omega)
 generalize x8.setCell ⟨w.heap.size+1+1,2,none⟩ (vI S1.n)=yb at *
 have kqq228:=@Hz _ @nn427;exact qq228):p:=h
theorem nn417(h:p:=by
 clear fm;have kqq359:=@Hz _ @nn703;exact qq359):p:=h
theorem nn418(h:p:=by
 clear fm;have hle3:=hr2.le;have hle4:=D1 q st5 [101,108,115,101];have cS:=fun W hW=>Hz (IH.out.item P g c (Cf q st5 [101,108,115,101]) W hW (by have:=HN.out;have:=h0.inb;omega))
 have kqq367:=@Hz _ @nn734;exact qq367):p:=h
theorem nn427(h:p:=by
 go_region_held3 (fun w'=>w'.cell? ⟨D,0,none⟩=some (vI k1)∧w'.cell? ⟨D,1,none⟩=some (vI a1)∧w'.cell? ⟨D,2,none⟩=some (vI v1)∧w'.cell? ⟨D,3,none⟩=some (vI n1)∧w'.cell? ⟨D,4,none⟩=some (.string ⟨s1⟩)∧w'.cell? ⟨D,5,none⟩=some (.slice B51 n51 e51)∧w'.cell? ⟨D,6,none⟩=some (.slice B61 n61 e61)∧w'.cell? ⟨D,7,none⟩=some (.slice B71 n71 e71)∧w'.cell? ⟨w.heap.size,6,none⟩=some (.slice (some ⟨g,o,none⟩) args.length c6)∧w'.cell? ⟨g,o+8,none⟩=some (vI p1)∧w'.cell? ⟨g,o+9,none⟩=some (vI pa1)∧w'.cell? ⟨g,o+10,none⟩=some (vS pn1)∧w'.cell? ⟨g,o+11,none⟩=some (vI pi1)∧w'.cell? ⟨g,o+12,none⟩=some (vS ps1)∧w'.cell? ⟨g,o+13,none⟩=some (.slice P51 pl1.length q51)∧w'.cell? ⟨g,o+14,none⟩=some (.slice P61 pr1.length q61)∧w'.cell? ⟨g,o+15,none⟩=some (.slice P71 pm1.length q71)) (first|go_keep|exact M7)
  ((first|((with_reducible refine(cW _ _ _ HSb).out.mono ?_);rintro e x9 ⟨k3,a3,v3,n3,s3,B53,n53,e53,B63,n63,e63,B73,n73,e73,A3,c3,rfl,hX3,hst3⟩;have T9:=(HTb.out.fr0 (Fr.refl [] yb).drew).step hP hst3;have P9:=hst3.2.1.keep (w:=yb.drew) HPD.out hnD2;obtain⟨j0,j1,j2,j3,j4,j5,j6,j7⟩:=HC1.out.at hg T9.st.1.fr;simp only[Nat.one_mul,Nat.add_assoc,Nat.reduceAdd] at j0 j1 j2 j3 j4 j5 j6 j7;have M7:=Rt P9 T9.e (⟨j0,j1,j2,j3,j4,j5,j6,j7⟩:_∧_∧_∧_∧_∧_∧_∧_);obtain⟨⟨l0,l1,l2,l3,l4,l5,l6,l7⟩,f0,f1,f2,f3,f4,f5,f6,f7⟩:=Ac T9.t;obtain⟨⟨u0,u1,u2,u3,u4,u5,u6,u7⟩,z0,z1,z2,z3,z4,z5,z6,z7⟩:=Ac T9.r;have hL0:D<x9.heap.size:=Aa P9;have hL1:w.heap.size<x9.heap.size:=Aa T9.e;have hL:w.heap.size+1+1<x9.heap.size:=Aa T9.t;have hL':w.heap.size+1<x9.heap.size:=Aa T9.r;have hL2:¬ x9.heap.size=w.heap.size+1+1:=oM;have hL3:¬ x9.heap.size=w.heap.size+1:=oM;have hL4:¬ w.heap.size+1+1=x9.heap.size:=oM;have hL5:¬ w.heap.size+1=x9.heap.size:=oM)))
 all_goals
  have kqq105:=@Hz _ @nn286;exact qq105):p:=h
theorem nn429(h:p:=by
 refine(may_no [105,102] P g c ts st t HT.out HB4.out x4 h4 HE.out).mono ?_;rintro e x4 ⟨rfl,f5⟩;go_wp2_with fail;have g0:=f5.keep g0 nE;have q3:=f5.keep q3 nE;have h4:=h4.fr f5;have f4:=f4.trans f5;have hs4:=f5.size;clear f5 hs4;exact kqq128.out):p:=h
theorem nn431(h:p:=by
 exact kqq63.out):p:=h
theorem nn433(h:p:=by
 have fa:=(Fr.refl [] x4).alloc (.cells #[.string ⟨[102,117,110].toArray⟩] 9);have ci:=fun cl=>Hz (Ic P g c ts st t HT.out x4.heap.size cl [[102,117,110]] sM (x4.alloc (.cells #[.string ⟨[102,117,110].toArray⟩] 9)) (h4.fr fa) (Gm.one x4 [102,117,110] _) sM HE.out)
 rw[HB1.out] at ci;go_wp2_with fail;refine(ci _).out.mono ?_;exact kqq8.out):p:=h
theorem nn438(h:p:=by
 refine bodyPost_ret (v:=.agg #[vI 9,vI a,vI S1.n,vI 0,vE,vZ,.slice (some ⟨x9.heap.size,0,none⟩) 2 2,vZ]) ?_ rfl hfin;exact qq329):p:=h
theorem nn448(h:p:=by
 have HG:=Hz (Aq g0 (vI 11) (vI t.at') (vE) (vI 0) (vE) (vZ) (.slice (some ⟨g8,0,none⟩) 3 cp8) (vZ));have HF:=Hz ((F).step (Aj y3 B (vI 11) (vI t.at') (vE) (vI 0) (vE) (vZ) (.slice (some ⟨g8,0,none⟩) 3 cp8) (vZ)) (fun x hx => .inr (by simp at hx;omega)));have HP:=Hz ((h0).frL (Aj y3 B (vI 11) (vI t.at') (vE) (vI 0) (vE) (vZ) (.slice (some ⟨g8,0,none⟩) 3 cp8) (vZ)) (by simpa using nP) (by simpa using ng));have HR:=Hz (An.keep (ok':=fun b=>B≤b) As row0 (Sh.of_fr (Aj y3 B (vI 11) (vI t.at') (vE) (vI 0) (vE) (vZ) (.slice (some ⟨g8,0,none⟩) 3 cp8) (vZ)) (fun b hb hlt=>⟨oM,by simp;omega⟩)));unfold st8 at HG HF HP HR;go_wp2_with fail;generalize (((((((y3.setCell ⟨B,0,none⟩ (vI 11)).setCell ⟨B,1,none⟩ (vI t.at')).setCell ⟨B,2,none⟩ (vE)).setCell ⟨B,3,none⟩ (vI 0)).setCell ⟨B,4,none⟩ (vE)).setCell ⟨B,5,none⟩ (vZ)).setCell ⟨B,6,none⟩ (.slice (some ⟨g8,0,none⟩) 3 cp8)).setCell ⟨B,7,none⟩ (vZ)=Z at HG HF HP HR ⊢;obtain⟨⟨d0,d1,d2,d3,d4,d5,d6,d7⟩,_⟩:=Ac HG.out;have hxx:=Ak.of_rows (k:=11) (a:=t.at') (nm:=[]) (n:=0) (s:=[]) (c5:=fun _=>[]) (c7:=fun _=>[]) An.nil_ HR.out An.nil_;refine bodyPost_ret (v:=.agg #[vI 11,vI t.at',vE,vI 0,vE,vZ,.slice (some ⟨g8,0,none⟩) 3 cp8,vZ]) ?_ rfl ?_
 ·exact qq126
 ·exact⟨_,_,_,_,_,_,_,_,_,_,_,_,_,_,_,_,_,_,rfl,by rw[hB];exact hxx,.look HT.out (.may_no HT.out HB0.out (.els (.isC_ HT.out HB1.out (.els (.may_no HT.out HB2.out (.els (.may_no HT.out HB3.out (.els (.may_yes HT.out HB4.out (.thn (.callE hr1 (.must_ hp (.callE hr2 (.must_ hq (.callE hr3 .retE))))))))))))))),HP.out,HF.out⟩):p:=h
theorem nn457(h:p:=by
 exact kqq48.out):p:=h
theorem nn458(h:p:=by
 refine hK1.out _ _ (⟨M7,u5⟩) (fun hHeld=>?upq1_5);clear hK1 K1
 (try simp only[Act.put,sX])
 refine Am (i:=6) rfl kR (fun K1 hK1=>?tpq1_6);go_simp;go_simp;refine hK1.out _ _ (⟨(Ao (Ae Q6 _)).1,(Bl (Ae G6 _)).1.2.2.2.2.2⟩) (fun hHeld=>?upq1_6);clear hK1 K1
 (try simp only[Act.put,sX])
 refine Am (i:=7) rfl kR (fun K1 hK1=>?tpq1_7);have kqq102:=@Hz _ @nn282;exact qq102):p:=h
theorem nn466(h:p:=by
 obtain⟨xx0,xx1,hargs⟩:∃ xx0 xx1,args=[xx0,xx1]:=Jl hal
 have hy0:args[0]?=some xx0:=by rw[hargs];rfl
 have hy1:args[1]?=some xx1:=by rw[hargs];rfl
 have ha0:(0:Int)<(args.length:Int):=by omega
 have hn0:0<args.length:=by omega
 have ha1:(1:Int)<(args.length:Int):=by omega
 have hn1:1<args.length:=by omega
 have hsz0:Bk args=szE xx0+szE xx1:=by rw[hargs];simp[Bk]
 have kqq342:=@Hz _ @nn652;exact qq342):p:=h
theorem nn471(h:p:=by
 refine(may_no [102,97,108,115,101] P g c ts st t HT.out HB2.out x1 h0 HE.out).mono ?_;rintro e x2 ⟨rfl,fm⟩;have kqq322:=@Hz _ @nn592;exact qq322):p:=h
theorem nn477(h:p:=by
 exact kqq85.out):p:=h
theorem nn478(h:p:=by
 exact kqq32.out):p:=h
theorem nn485(h:p:=by
 have hx0:=hx0.keep (ok':=fun b=>B<b∧¬ b=T3∧¬ b=P) (Sh.of_fr f2 (fun b hb hlt=>⟨hb,by simp;omega⟩));have kqq123:=@Hz _ @nn327;exact qq123):p:=h
theorem nn494(h:p:=by
 exact kqq208.out):p:=h
theorem nn496(h:p:=by
 have hXx:Au x9 (TOk (w.heap.size+3) A3) X [vI k1,vI a1,vI v1,vI n1,.string ⟨s1⟩,.slice B51 n51 e51,.slice B61 n61 e61,.slice B71 n71 e71]:=HXb.out.keep (Iu HTb.out.st.1 oM (Fr.refl [] yb).drew hst3);have hXy:Au x9 (TOk (w.heap.size+3) A3) Y [vI k3,vI a3,vI v3,vI n3,.string ⟨s3⟩,.slice B53 n53 e53,.slice B63 n63 e63,.slice B73 n73 e73]:=hX3.keep (G5 HTb.out.sz (Fr.refl [] _));have HT9:=Hz T9;have HXX:=Hz hXx;have HXY:=Hz hXy;clear T9 hXx hXy hX3 hst3 P9 M7 HTb HXb HPD;go_wp2_with fail;exact kqq105.out):p:=h
theorem nn497(h:p:=by
 exact kqq100.out):p:=h
theorem nn498(h:p:=by
 obtain⟨⟨i0,i1,i2,i3,i4,i5,i6,i7⟩,_⟩:=Ac T1.e;exact kqq65.out):p:=h
theorem nn501(h:p:=by
 exact kqq212.out):p:=h
theorem nn502(h:p:=by
 clear fm;have HG:=Hz (Dm g0 (vI 9) (vI a) (vE) (vI 0) (vE) (.slice A5 n5 cc5) (.slice A6 n6 cc6));have HF:=Hz (F.step (Ce y1 B (vI 9) (vI a) (vE) (vI 0) (vE) (.slice A5 n5 cc5) (.slice A6 n6 cc6)) (fun x hx => .inr (by simp at hx;omega)));have HP:=Hz (h0.frL (Ce y1 B (vI 9) (vI a) (vE) (vI 0) (vE) (.slice A5 n5 cc5) (.slice A6 n6 cc6)) sO sO);have HRW0:=Hz (An.keep (ok':=fun b=>B≤b) Jh rowE (Sh.of_fr (Ce y1 B (vI 9) (vI a) (vE) (vI 0) (vE) (.slice A5 n5 cc5) (.slice A6 n6 cc6)) (fun b hb hlt=>⟨oM,by simp;omega⟩)));have HRW1:=Hz (An.keep (ok':=fun b=>B≤b) Cg rowS (Sh.of_fr (Ce y1 B (vI 9) (vI a) (vE) (vI 0) (vE) (.slice A5 n5 cc5) (.slice A6 n6 cc6)) (fun b hb hlt=>⟨oM,by simp;omega⟩)));unfold st7 at HG HF HP HRW0 HRW1;go_wp2_with fail;generalize ((((((y1.setCell ⟨B,0,none⟩ (vI 9)).setCell ⟨B,1,none⟩ (vI a)).setCell ⟨B,2,none⟩ (vE)).setCell ⟨B,3,none⟩ (vI 0)).setCell ⟨B,4,none⟩ (vE)).setCell ⟨B,5,none⟩ (.slice A5 n5 cc5)).setCell ⟨B,6,none⟩ (.slice A6 n6 cc6)=Z at HG HF HP HRW0 HRW1 ⊢;obtain⟨⟨d0,d1,d2,d3,d4,d5,d6⟩,_⟩:=Ao HG.out;have hxx:=Bw.of_rows (w:=Z) (ok:=fun b=>B≤b) (k:=9) (a:=a) (nm:=[]) (n:=0) (s:=[]) HRW1.out HRW0.out;exact kqq35.out):p:=h
theorem nn510(h:p:=by
 have cs:=fun w=>Hz (So s hs w)
 exact kqq90.out):p:=h
theorem nn516(h:p:=by
 exact kqq81.out):p:=h
theorem nn517(h:p:=by
 obtain⟨j0,j1,j2,j3,j4,j5,j6,j7⟩:=HC0.out.at hg T0.st.1.fr;simp only[Nat.zero_mul,Nat.add_zero] at j0 j1 j2 j3 j4 j5 j6 j7;go_enter func20,ntmps20;go_wp2_with fail
 generalize ((w.alloc (.cells #[vI k,vI a,vS nm,vI n,vS s,.slice A5 ls.length c5,.slice (some ⟨g,o,none⟩) args.length c6,.slice A7 arms.length c7] 27)).alloc Dj).alloc (.cells #[vI 9,vI a,vI 0,vI 0,vE,vZ,vZ,vZ] 34)=x5 at *
 have kqq53:=@Hz _ @nn157;exact qq53):p:=h
theorem nn518(h:p:=by
 have hle:=hr1.le;obtain⟨⟨l0,l1,l2,l3,l4,l5,l6,l7⟩,_⟩:=Ac q1;obtain⟨m0,m1,m2,m3,_⟩:=Ar q4;exact kqq92.out):p:=h
theorem nn520(h:p:=by
 exact kqq108.out):p:=h
theorem nn522(h:p:=by
 have cS:=fun W hW=>Hz (IH.out.unary P g c ⟨st.i+1,st.ok⟩ W hW (by have:=HN.out;have:=h5.inb;simp only at this ⊢;omega))
 obtain⟨m0,m1,m2,m3,_⟩:=Ar q3;have n3B:¬ T3=B:=by omega
 have nB3:¬ B=T3:=by omega
 go_wp2_with fail
 go_region_held3 (fun w'=>w'.cell? ⟨T3,0,none⟩=some (vI t.k)∧w'.cell? ⟨T3,1,none⟩=some (vI t.at')∧w'.cell? ⟨T3,2,none⟩=some (.string ⟨t.text.toArray⟩)∧w'.cell? ⟨T3,3,none⟩=some (vI t.n)) (first|go_keep|exact⟨M7.1,M7.2.1,M7.2.2.1,M7.2.2.2.1⟩| exact⟨M6.1,M6.2.1,M6.2.2.1,M6.2.2.2.1⟩) ((first|(go_at_call 73;refine(Mi _ t _ _ _ _).mono ?_;rintro e x7 ⟨rfl,f7⟩;have Q7:=f7.keep (Ae Q6 (.cells #[vI k2,vI a2,vS nm2,vI n2,vS s2,.slice A52 n52 c52,.slice A62 n62 c62,.slice A72 n72 c72] 27)) nE;have hT7:=Aa Q7;have M7:=Ar Q7;have G7:=f7.keep (Ae G6 (.cells #[vI k2,vI a2,vS nm2,vI n2,vS s2,.slice A52 n52 c52,.slice A62 n62 c62,.slice A72 n72 c72] 27)) nE;have hB7:=Aa G7;obtain⟨⟨u0,u1,u2,u3,u4,u5,u6,u7⟩,z0,z1,z2,z3,z4,z5,z6,z7⟩:=Ac G7)| (go_at_call 187;refine(cS _ (h5.fr (Fr.refl [] x5).drew)).out.mono ?_;rintro e x6 ⟨k2,a2,nm2,n2,s2,ls2,args2,arms2,A52,n52,c52,A62,n62,c62,A72,n72,c72,st2,rfl,hx2,hr2,hst2,f6⟩;have Q6:=f6.keep (w:=x5.drew) q3 sO;have hT6:=Aa Q6;have M6:=Ar Q6;have G6:=f6.keep (w:=x5.drew) g0 (by simpa using nB);have hB6:=Aa G6)))
 have kqq111:=@Hz _ @nn294;exact qq111):p:=h
theorem nn543(h:p:=by
 go_enter_defers func23,ntmps23
 go_wp2_with fail
 generalize ((w.alloc (.cells #[.pointer (some ⟨Q,0,none⟩)] 64)).alloc (.cells #[vI k,vI a,vI v,vI n,vS s,.slice A5 ls.length c5,.slice A6 args.length c6,.slice A7 cases.length c7] 34)).alloc (.cells #[vI d] 3)=x at *
 have hk1:=HLK.out x.drew MT hX.mt;have hk2:=HLK.out (x.alloc (.cells #[.bool false,.bool false,.bool false,vI 0] 98)).drew MT (Ae hX.mt _);have b0:=Ab g0 0;obtain⟨⟨b1,b2,b3,b4,b5,b6,b8,b9⟩,_⟩:=Ac g1;have b7:=Ab g2 0;obtain⟨q0,q1,q2,q3,q4,_,_⟩:=hX.cells;have hg0:=Aa g0;have hg1:=Aa g1;have hg2:=Aa g2;have hqx:=hX.lt.1;exact kqq83.out):p:=h
theorem nn556(h:p:=by
 have gz:=L9 g (vI 7) (vI 0) (vS X) (vI 0);have fz:=ff.store4 hB (vI 7) (vI 0) (vS X) (vI 0);clear h0 g;go_wp2_with fail;generalize (((x1.setCell ⟨B,0,none⟩ (vI 7)).setCell ⟨B,1,none⟩ (vI 0)).setCell ⟨B,2,none⟩ (vS X)).setCell ⟨B,3,none⟩ (vI 0)=Z at gz fz ⊢;obtain⟨d0,d1,d2,d3,_⟩:=Ar gz;refine bodyPost_ret (v:=.tuple #[Gg 7 0 X 0,vI ((0+X.length:Nat):Int),vI 0]) ?_ rfl ?_
 ·exact qq127
 ·exact⟨rfl,fz⟩):p:=h
theorem nn557(h:p:=by
 have gz:=L9 g (vI 0) (vI 0) (.string ⟨([]:LB).toArray⟩) (vI 0);have fz:=ff.store4 hB (vI 0) (vI 0) (.string ⟨([]:LB).toArray⟩) (vI 0);clear h0 g;go_wp2_with fail;generalize (((x1.setCell ⟨B,0,none⟩ (vI 0)).setCell ⟨B,1,none⟩ (vI 0)).setCell ⟨B,2,none⟩ (.string ⟨([]:LB).toArray⟩)).setCell ⟨B,3,none⟩ (vI 0)=Z at gz fz ⊢;exact qq177):p:=h
theorem nn562(h:p:=by
 exact qq59):p:=h
theorem nn563(h:p:=by
 refine(may_yes [123] P g c ts st t HT.out HB4.out x3 h0 HE.out).mono ?_;rintro e y1 ⟨rfl,h0,fm⟩;have kqq355:=@Hz _ @nn691;exact qq355):p:=h
theorem nn565(h:p:=by
 have f4:=(f0.trans f3).trans fb4;have g0:=(f3.trans fb4).keep g0 nE;have h4:=H.out.fr f4;obtain⟨p0,p1,p2,_⟩:=Fp h3.blk;have hT4:=Aa q3;clear h3 fb4;exact kqq52.out):p:=h
theorem nn566(h:p:=by
 generalize x3.alloc (.cells #[vI t.k,vI t.at',.string ⟨t.text.toArray⟩,vI t.n] 52)=x4 at *
 have hT4:=Aa q3;have hs3:=f3.size
 generalize x3.heap.size=T3 at *
 have f4:=(f0.trans f3).trans fb4;have g0:=(f3.trans fb4).keep g0 nE;have h4:=H.out.fr f4;exact kqq39.out):p:=h
theorem nn568(h:p:=by
 exact Sd.done (by rw[← HP.out,hn]) (Dc (Ba HW.out)) hb.drop):p:=h
theorem nn581(h:p:=by
 clear m0 m1 m2 m3 m4 m5 m6 j0 j1 j2 j3 j4 j5 j6;have q0:=HQ.out;clear HQ
 generalize y1.setCell ⟨T,0,none⟩ (vI 9)=y1n at *
 exact kqq87.out):p:=h
theorem nn582(h:p:=by
 clear m0 m1 m2 m3 m4 m5 m6 j0 j1 j2 j3 j4 j5 j6;have q0:=HQ.out;clear HQ
 generalize y1.setCell ⟨T,0,none⟩ (vI 3)=y1n at *
 exact kqq227.out):p:=h
theorem nn589(h:p:=by
 exact kqq301.out):p:=h
theorem nn591(h:p:=by
 refine(may_no [116,114,117,101] P g c ts st t HT.out HB1.out x0 h0 HE.out).mono ?_;rintro e x1 ⟨rfl,fm⟩;have g0:=fm.keep g0 nE;have q0:=fm.keep q0 nE;have F:=F.trans0 fm;have h0:=h0.fr fm;clear fm;go_wp2_with fail;exact kqq241.out):p:=h
theorem nn592(h:p:=by
 exact kqq45.out):p:=h
theorem nn593(h:p:=by
 obtain⟨p0,p1,p2,_⟩:=Fp h0.blk;have a0:=h0.rt.c0 _ _ HN_.out;have a1:=h0.rt.c1 _ _ HN_.out;have a2:=h0.rt.c2 _ _ HN_.out;have a3:=h0.rt.c3 _ _ HN_.out;have hPx:=Aa h0.blk;have hgx:=h0.lt;have hts:=HE.out.1;have hmin:min ((st.i:Int)+1) ((ts.length-1:Nat):Int)=(J:Int):=by have:=HJ.out;omega
 have hJ1:(0:Int)≤(J:Int):=by omega
 have hJ2:(J:Int)<(ts.length:Int):=by have:=HJ.out;omega
 have w1q:IntKind.i64.wrap ((st.i:Int)+1)=((st.i+1:Nat):Int):=(IntWalk.i64_in _ oM).trans oM;have w2q:IntKind.i64.wrap ((ts.length:Int)-1)=((ts.length-1:Nat):Int):=(IntWalk.i64_in _ oM).trans oM;exact kqq226.out):p:=h
theorem nn601(h:p:=by
 have HG:=Hz (Aq g0 (vI k2) (vI a2) (vS nm2) (vI n2) (vS s2) (.slice A52 n52 c52) (.slice A62 n62 c62) (.slice A72 n72 c72));exact kqq91.out):p:=h
theorem nn602(h:p:=by
 exact kqq25.out):p:=h
theorem nn610(h:p:=by
 have t16:(k==16)=false:=by simp;omega
 have t17:(k==17)=false:=by simp;omega
 exact kqq98.out):p:=h
theorem nn616(h:p:=by
 refine tk0 12 (oi:={ dst:=some 63,op:=_,type:=_,pos:=_,after:=_,guard:=_ }) rfl rF ?_
 try simp only[Act.put,sX]
 refine tk0 13 (oi:={ dst:=some 64,op:=_,type:=_,pos:=_,after:=_,guard:=_ }) rfl rF ?_
 try simp only[Act.put,sX]
 refine tk0 14 (oi:={ dst:=some 65,op:=_,type:=_,pos:=_,after:=_,guard:=_ }) rfl rF ?_
 try simp only[Act.put,sX]
 refine tk0 15 (oi:={ dst:=some 66,op:=_,type:=_,pos:=_,after:=_,guard:=_ }) rfl rF ?_
 try simp only[Act.put,sX]
 refine tk0 16 (oi:={ dst:=some 67,op:=_,type:=_,pos:=_,after:=_,guard:=_ }) rfl rF ?_
 try simp only[Act.put,sX]
 refine tk0 17 (oi:={ dst:=some 68,op:=_,type:=_,pos:=_,after:=_,guard:=_ }) rfl rF ?_
 try simp only[Act.put,sX]
 refine tk0 18 (oi:={ dst:=some 69,op:=_,type:=_,pos:=_,after:=_,guard:=_ }) rfl rF ?_
 try simp only[Act.put,sX]
 refine tk0 19 (oi:={ dst:=some 70,op:=_,type:=_,pos:=_,after:=_,guard:=_ }) rfl rF ?_
 try simp only[Act.put,sX]
 refine tk0 20 (oi:={ dst:=some 71,op:=_,type:=_,pos:=_,after:=_,guard:=_ }) rfl rF ?_
 try simp only[Act.put,sX]
 refine tk0 21 (oi:={ dst:=some 72,op:=_,type:=_,pos:=_,after:=_,guard:=_ }) rfl rF ?_;have kqq237:=@Hz _ @nn457;exact qq237):p:=h
theorem nn623(h:p:=by
 obtain⟨F,g0,q0,h0,row,hsh,hnew,hsz⟩:=Fc (fld:=6) (size:=8) As f8 hx3 rfl hst g0 q0 row F oM oM oM oM oM oM oM hown9 hgrow9 hfp9 (VV':=#[vI 11,vI t.at',vE,vI 0,vE,vZ,.slice (some ⟨g8,0,none⟩) 3 cp8,vZ]) rfl;clear ROWH ROW9 Q8 Q9 hown9 hgrow9 hfp9 f8 hst hT8 hT9 hTwr
 generalize w9.setCell ⟨T,6,none⟩ (.slice (some ⟨g8,0,none⟩) 3 cp8)=y3 at *
 have kqq235:=@Hz _ @nn448;exact qq235):p:=h
theorem nn624(h:p:=by
 refine(may_no [109,97,116,99,104] P g c ts st t HT.out HB2.out x4 h4 HE.out).mono ?_;have kqq229:=@Hz _ @nn431;exact qq229):p:=h
theorem nn632(h:p:=by
 clear fm;have HG:=Hz (Aq g0 (vI 12) (vI a) (vE) (vI 0) (vE) (.slice A5 n5 cc5) (.slice A6 n6 cc6) (vZ));have HF:=Hz (F.step (Aj y1 B (vI 12) (vI a) (vE) (vI 0) (vE) (.slice A5 n5 cc5) (.slice A6 n6 cc6) (vZ)) (fun x hx => .inr (by simp at hx;omega)));have HP:=Hz (h0.frL (Aj y1 B (vI 12) (vI a) (vE) (vI 0) (vE) (.slice A5 n5 cc5) (.slice A6 n6 cc6) (vZ)) sO sO);have HRW0:=Hz (An.keep (ok':=fun b=>B≤b) As rowE (Sh.of_fr (Aj y1 B (vI 12) (vI a) (vE) (vI 0) (vE) (.slice A5 n5 cc5) (.slice A6 n6 cc6) (vZ)) (fun b hb hlt=>⟨oM,by simp;omega⟩)));have HRW1:=Hz (An.keep (ok':=fun b=>B≤b) Cg rowS (Sh.of_fr (Aj y1 B (vI 12) (vI a) (vE) (vI 0) (vE) (.slice A5 n5 cc5) (.slice A6 n6 cc6) (vZ)) (fun b hb hlt=>⟨oM,by simp;omega⟩)));unfold st8 at HG HF HP HRW0 HRW1;go_wp2_with fail;generalize (((((((y1.setCell ⟨B,0,none⟩ (vI 12)).setCell ⟨B,1,none⟩ (vI a)).setCell ⟨B,2,none⟩ (vE)).setCell ⟨B,3,none⟩ (vI 0)).setCell ⟨B,4,none⟩ (vE)).setCell ⟨B,5,none⟩ (.slice A5 n5 cc5)).setCell ⟨B,6,none⟩ (.slice A6 n6 cc6)).setCell ⟨B,7,none⟩ (vZ)=Z at HG HF HP HRW0 HRW1 ⊢;obtain⟨⟨d0,d1,d2,d3,d4,d5,d6,d7⟩,_⟩:=Ac HG.out;have hxx:=Ak.of_rows (w:=Z) (ok:=fun b=>B≤b) (k:=12) (a:=a) (nm:=[]) (n:=0) (s:=[]) HRW1.out HRW0.out (c7:=fun _=>[]) An.nil_;exact kqq30.out):p:=h
theorem nn633(h:p:=by
 clear fm;have HG:=Hz (Aq g0 (vI k) (vI a) (vE) (vI 0) (vE) (vZ) (.slice (some ⟨gz,0,none⟩) 1 1) (.slice A7 n7 cc7));have HF:=Hz (F.step (Aj y1 B (vI k) (vI a) (vE) (vI 0) (vE) (vZ) (.slice (some ⟨gz,0,none⟩) 1 1) (.slice A7 n7 cc7)) (fun x hx => .inr (by simp at hx;omega)));have HP:=Hz (h0.frL (Aj y1 B (vI k) (vI a) (vE) (vI 0) (vE) (vZ) (.slice (some ⟨gz,0,none⟩) 1 1) (.slice A7 n7 cc7)) sO sO);have HRW0:=Hz (An.keep (ok':=fun b=>B≤b) As rowE (Sh.of_fr (Aj y1 B (vI k) (vI a) (vE) (vI 0) (vE) (vZ) (.slice (some ⟨gz,0,none⟩) 1 1) (.slice A7 n7 cc7)) (fun b hb hlt=>⟨oM,by simp;omega⟩)));have HRW1:=Hz (An.keep (ok':=fun b=>B≤b) Kt rowA (Sh.of_fr (Aj y1 B (vI k) (vI a) (vE) (vI 0) (vE) (vZ) (.slice (some ⟨gz,0,none⟩) 1 1) (.slice A7 n7 cc7)) (fun b hb hlt=>⟨oM,by simp;omega⟩)));unfold st8 at HG HF HP HRW0 HRW1;go_wp2_with fail;generalize (((((((y1.setCell ⟨B,0,none⟩ (vI k)).setCell ⟨B,1,none⟩ (vI a)).setCell ⟨B,2,none⟩ (vE)).setCell ⟨B,3,none⟩ (vI 0)).setCell ⟨B,4,none⟩ (vE)).setCell ⟨B,5,none⟩ (vZ)).setCell ⟨B,6,none⟩ (.slice (some ⟨gz,0,none⟩) 1 1)).setCell ⟨B,7,none⟩ (.slice A7 n7 cc7)=Z at HG HF HP HRW0 HRW1 ⊢;obtain⟨⟨d0,d1,d2,d3,d4,d5,d6,d7⟩,_⟩:=Ac HG.out;have hxx:=Ak.of_rows (k:=k) (a:=a) (nm:=[]) (n:=0) (s:=[]) (c5:=fun _=>[]) An.nil_ HRW0.out HRW1.out;exact kqq37.out):p:=h
theorem nn643(h:p:=by
 have hgw:g<w.heap.size:=by have:=HLE.out;omega
 have ngT:¬ g=w.heap.size+1+1:=by omega
 have nTg:¬ w.heap.size+1+1=g:=by omega
 have T0:=TSt.start H.out (.cells #[vI k,vI a,vS nm,vI n,vS s,.slice A5 ls.length c5,.slice (some ⟨g,o,none⟩) args.length c6,.slice A7 arms.length c7] 27) #[vI 9,vI a,vI 0,vI 0,vE,vZ,vZ,vZ];have kqq257:=@Hz _ @nn517;exact qq257):p:=h
theorem nn644(h:p:=by
 go_enter func140,ntmps140;go_wp2_with fail;have f0:Fr [] w ((w.alloc (.cells #[vI 0,vI a,vE,vI 0,vE,vZ,vZ,vZ] 27)).alloc (.cells #[vI 0,vI 0,vE,vI 0,vE,vZ,vZ,vZ] 27)):=((Fr.refl [] w).alloc _).alloc _;have q0:=Ae (Ag w (.cells #[vI 0,vI a,vE,vI 0,vE,vZ,vZ,vZ] 27)) (.cells #[vI 0,vI 0,vE,vI 0,vE,vZ,vZ,vZ] 27);have g0:=Ag (w.alloc (.cells #[vI 0,vI a,vE,vI 0,vE,vZ,vZ,vZ] 27)) (.cells #[vI 0,vI 0,vE,vI 0,vE,vZ,vZ,vZ] 27);have hsz:(w.alloc (.cells #[vI 0,vI a,vE,vI 0,vE,vZ,vZ,vZ] 27)).heap.size=w.heap.size+1:=by simp
 rw[hsz] at g0;clear hsz;have h0:=H.out.fr f0;have F:=f0.mono (L':=[P]) (fun x hx=>by cases hx)
 generalize (w.alloc (.cells #[vI 0,vI a,vE,vI 0,vE,vZ,vZ,vZ] 27)).alloc (.cells #[vI 0,vI 0,vE,vI 0,vE,vZ,vZ,vZ] 27)=w1 at *
 generalize hT:w.heap.size=T at *
 generalize hB:T+1=B at *
 have hPT:P<T:=hP;have hgT:g<T:=hgl;clear f0 hP hgl;exact kqq42.out):p:=h
theorem nn645(h:p:=by
 go_enter func160,ntmps160;go_wp2_with fail;have f0:Fr [] w ((w.alloc (.cells #[vI 0,vI a,vE,vI 0,vE,vZ,vZ] 123)).alloc (.cells #[vI 0,vI 0,vE,vI 0,vE,vZ,vZ] 123)):=((Fr.refl [] w).alloc _).alloc _;have q0:=Ae (Ag w (.cells #[vI 0,vI a,vE,vI 0,vE,vZ,vZ] 123)) (.cells #[vI 0,vI 0,vE,vI 0,vE,vZ,vZ] 123);have g0:=Ag (w.alloc (.cells #[vI 0,vI a,vE,vI 0,vE,vZ,vZ] 123)) (.cells #[vI 0,vI 0,vE,vI 0,vE,vZ,vZ] 123);have hsz:(w.alloc (.cells #[vI 0,vI a,vE,vI 0,vE,vZ,vZ] 123)).heap.size=w.heap.size+1:=by simp
 rw[hsz] at g0;clear hsz;have h0:=H.out.fr f0;have F:=f0.mono (L':=[P]) (fun x hx=>by cases hx)
 generalize (w.alloc (.cells #[vI 0,vI a,vE,vI 0,vE,vZ,vZ] 123)).alloc (.cells #[vI 0,vI 0,vE,vI 0,vE,vZ,vZ] 123)=w1 at *
 generalize hT:w.heap.size=T at *
 generalize hB:T+1=B at *
 have hPT:P<T:=hP;have hgT:g<T:=hgl;clear f0 hP hgl;exact kqq11.out):p:=h
theorem nn652(h:p:=by
 have hmx1:=HMA.out 1 _ hy1;have hwx1:=HW6.out 1 _ hy1;obtain⟨g1,o1,p1,pa1,pn1,pi1,ps1,pl1,pr1,pm1,P51,q51,P61,q61,P71,q71,hAA,hg1,rfl,hx1,hc1⟩:=I0 H6.out E6.out (i:=1) hy1;cases hAA;have HC1:=Hz hc1;clear hc1 hy1;exact kqq44.out):p:=h
theorem nn653(h:p:=by
 exact kqq230.out):p:=h
theorem nn666(h:p:=by
 obtain⟨m0,m1,m2,m3,_⟩:=Ar q3;go_wp2_with fail;have q0:=Ag x5 (.cells #[vI 9,vI t.at',vE,vI 0,vE,vZ,vZ,vZ] 27);have fb:Fr [] x5 (x5.alloc (.cells #[vI 9,vI t.at',vE,vI 0,vE,vZ,vZ,vZ] 27)):=(Fr.refl [] x5).alloc _
 generalize x5.alloc (.cells #[vI 9,vI t.at',vE,vI 0,vE,vZ,vZ,vZ] 27)=x6 at *
 have hBT:B<x5.heap.size:=Aa g0
 generalize x5.heap.size=T at *
 have g0:=fb.keep g0 nE;have h0:=h0.fr fb;have F:=F.trans0 fb;clear fb;clear m0 m1 m2 m3 q3;obtain⟨u,hu⟩:=Bn h0.inb;exact kqq318.out):p:=h
theorem nn670(h:p:=by
 have HQ:=Hz q1;clear q0 q1 fs;go_wp2_with fail;exact kqq320.out):p:=h
theorem nn686(h:p:=by
 have kqq251:=@Hz _ @nn498;exact qq251):p:=h
theorem nn688(h:p:=by
 exact kqq115.out):p:=h
theorem nn691(h:p:=by
 have hTx:=Aa q0;have q1:(y1.setCell ⟨T,0,none⟩ (vI 9)).heap[T]?=some (.cells #[vI 9,vI a,vE,vI 0,vE,vZ,vZ] 123 (0,0)):=Cl q0 0 _;have fs:=(Fr.refl [T] y1).setCell (p:=⟨T,0,none⟩) (.inl sM) (vI 9);have kqq320:=@Hz _ @nn581;exact qq320):p:=h
theorem nn692(h:p:=by
 have hTx:=Aa q0;have q1:(y1.setCell ⟨T,0,none⟩ (vI 3)).heap[T]?=some (.cells #[vI 3,vI a,vE,vI 0,vE,vZ,vZ] 123 (0,0)):=Cl q0 0 _;have fs:=(Fr.refl [T] y1).setCell (p:=⟨T,0,none⟩) (.inl sM) (vI 3);have kqq320:=@Hz _ @nn582;exact qq320):p:=h
theorem nn693(h:p:=by
 obtain⟨⟨u0_,u1,u2,u3,u4,u5,u6⟩,z0,z1,z2,z3,z4,z5,z6⟩:=Ao g0;have hTx:=Aa q0;have hBx:=Aa g0;have nBT:¬ B=T:=by omega
 have nTB:¬ T=B:=by omega
 exact kqq95.out):p:=h
theorem nn703(h:p:=by
 have hle1:=hr1.le;simp only at hle1;have hle2:=D1 p st2 [116,104,101,110];have cS:=fun W hW=>Hz (IH.out.item P g c (Cf p st2 [116,104,101,110]) W hW (by have:=HN.out;have:=h0.inb;omega))
 have kqq367:=@Hz _ @nn730;exact qq367):p:=h
theorem nn723(h:p:=by
 clear fm;have hle3:=hr1.le;have hle4:=D1 q st5 [105,110];have cS:=fun W hW=>Hz (IH.out.seq P g c (Cf q st5 [105,110]) W hW (by have:=HN.out;have:=h0.inb;omega))
 obtain⟨⟨l0,l1,l2,l3,l4,l5,l6,l7⟩,_⟩:=Ac q0;have hTwr:=Aa q0;have ROWH:=Hz row;clear row;go_wp2_with fail;exact kqq358.out):p:=h
theorem nn725(h:p:=by
 exact kqq225.out):p:=h
theorem nn730(h:p:=by
 exact kqq78.out):p:=h
theorem nn734(h:p:=by
 exact kqq76.out):p:=h
theorem nn741(h:p:=by
 obtain⟨F,g0,q0,h0,row,hsh,hnew,hsz⟩:=Fc (fld:=6) (size:=8) As f8 hx2 rfl hst g0 q0 row F oM oM oM oM oM oM oM hown9 hgrow9 hfp9 (VV':=#[vI 11,vI t.at',vE,vI 0,vE,vZ,.slice (some ⟨g9,0,none⟩) 2 cp9,vZ]) rfl;clear ROWH ROW9 Q8 Q9 hown9 hgrow9 hfp9 f8 hst hT8 hT9 hTwr
 generalize w9.setCell ⟨T,6,none⟩ (.slice (some ⟨g9,0,none⟩) 2 cp9)=y1 at *
 clear hsh hnew hsz cS;go_wp2_with fail;obtain⟨q,hq⟩:=Bn h0.inb;refine(Cp [101,108,115,101] P g c ts st5 q hq y1 h0 HE.out).mono ?_;rintro e y2 ⟨rfl,h0,fm⟩;have kqq225:=@Hz _ @nn418;exact qq225):p:=h
theorem qq1(h:p:=by
 have kqq136:=@Hz _ @nn338;exact qq136):p:=h
theorem qq2(h:p:=by
 have kqq186:=@Hz _ @nn387;exact qq186):p:=h
theorem qq3(h:p:=by
 have kqq186:=@Hz _ @nn386;exact qq186):p:=h
theorem qq4(h:p:=by
 rw[hX];dsimp only;have HMA:Hid (∀ (i:Nat) (x:Ad),args[i]?=some x→Bh x=true):=Hz (Ek hma);have HMM:Hid (∀ (i:Nat) (p:Al) (x:Ad),arms[i]?=some (p,x)→Bh x=true):=Hz (fun i p x hi=>(Ej hmm i p x hi).2)
 cases hW with
 | mk h1 h2 h3 h4 h5' h6' h7' h8' h9' =>
 cases hx with
 | mk d5 d6 cp ce h5 e5 h6 e6 h7 e7 e8 =>
 have hN':Bk args<N∧B1 arms<N∧Bk args+B1 arms≤szE (.mk k a nm n s ls args arms):=by rw[szE] at hN ⊢;omega
 have HNS:=Hz hN';have IH:=Hz ih;have H5:=Hz h5;have H6:=Hz h6;have H7:=Hz h7;have E5:Hid (∀ (i:Nat) (x:LB),ls[i]?=some x→d5 i=Gk x):=Hz e5;have E6:Hid (∀ (i:Nat) (x:Ad),args[i]?=some x→Ak w0 ok x (d6 i)):=Hz e6;have E7:Hid (∀ (i:Nat) (p:Al) (x:Ad),arms[i]?=some (p,x)→Bw w0 ok p (cp i)):=Hz e7;have E8:Hid (∀ (i:Nat) (p:Al) (x:Ad),arms[i]?=some (p,x)→Ak w0 ok x (ce i)):=Hz e8;have HW6:Hid (∀ (i:Nat) (x:Ad),args[i]?=some x→WlE x):=Hz h6';have HW8:Hid (∀ (i:Nat) (p:Al) (x:Ad),arms[i]?=some (p,x)→WlP p):=Hz h8';have HW9:Hid (∀ (i:Nat) (p:Al) (x:Ad),arms[i]?=some (p,x)→WlE x):=Hz h9';have H:=Hz h;have HB:=Hz hb;have hP:=h.lt;have HLE:=Hz h.le;have b3:ls.length≤8796093022208:=by unfold reachBytes at h3;omega
 have b4:args.length≤1099511627775:=by unfold reachBytes at h5';omega
 have b6:s.length+nm.length≤281474976702464:=by unfold reachBytes at h1 h2;omega
 have b5:arms.length≤650000000000:=by unfold reachBytes at h7';omega
 obtain⟨m0,m1,m2,m3,y0,y1,y2,y3⟩:=h.cells;exact kqq4.out):p:=h
theorem qq5(h:p:=by
 cases b4 with
 | true =>
  exact qq72
 | false =>
  by_cases t3:nl=0
  ·subst t3;exact qq72
  ·have e3:((nl:Int)==0)=false:=by rw[bN];omega
   exact qq66):p:=h
theorem qq6(h:p:=by
 cases b3 with
 | true =>
  exact qq5
 | false =>
  by_cases t2:s=[]
  ·subst t2;exact qq5
  ·have e2:(s==[])=false:=by rw[bN];exact t2
   exact qq66):p:=h
theorem qq7(h:p:=by
 cases b2 with
 | true =>
  exact qq6
 | false =>
  by_cases t1:n=0
  ·subst t1;exact qq6
  ·have e1:(n==0)=false:=by rw[bN];exact t1
   exact qq66):p:=h
theorem qq8(h:p:=by
 have kqq68:=@Hz _ @nn181;exact qq68):p:=h
theorem qq9(h:p:=by
 intro w' hSw
 (try dsimp only at hSw)
 go_simp
 (try with_reducible rfl)):p:=h
theorem qq10(h:p:=by
 have kqq339:=@Hz _ @nn643;exact qq339):p:=h
theorem qq11(h:p:=by
 have HT:=Hz ht;clear ht;have IHP:=Hz ihP;clear ihP;have kqq340:=@Hz _ @nn645;exact qq340):p:=h
theorem qq12(h:p:=by
 have g0:=f5.keep g0 nE;obtain⟨⟨l0,l1,l2,l3,l4,l5,l6,l7⟩,_⟩:=Ac (f5.keep q1 nE);have h5:=h4.fr f5;have hx1:=hx1.keep (ok':=fun b=>B<b) (Sh.of_fr f5 (fun b hb hlt=>⟨hb.1,fun x=>by cases x⟩));have HG:=Hz (Aq g0 (vI k1) (vI a1) (vS nm1) (vI n1) (vS s1) (.slice A51 n51 c51) (.slice A61 n61 c61) (.slice A71 n71 c71));have HF:=Hz ((F4.trans0 f5).step (Aj x5 B (vI k1) (vI a1) (vS nm1) (vI n1) (vS s1) (.slice A51 n51 c51) (.slice A61 n61 c61) (.slice A71 n71 c71)) (fun x hx => .inr (by simp at hx;omega)));have HP:=Hz ((h5).frL (Aj x5 B (vI k1) (vI a1) (vS nm1) (vI n1) (vS s1) (.slice A51 n51 c51) (.slice A61 n61 c61) (.slice A71 n71 c71)) (by simpa using nP) (by simpa using ng));have HX:Hid (Ak (st8 x5 B (vI k1) (vI a1) (vS nm1) (vI n1) (vS s1) (.slice A51 n51 c51) (.slice A61 n61 c61) (.slice A71 n71 c71)) (fun b=>B≤b) (.mk k1 a1 nm1 n1 s1 ls1 args1 arms1) [vI k1,vI a1,vS nm1,vI n1,vS s1,.slice A51 n51 c51,.slice A61 n61 c61,.slice A71 n71 c71]):=Hz ((hx1).keep (Sh.of_fr (Aj x5 B (vI k1) (vI a1) (vS nm1) (vI n1) (vS s1) (.slice A51 n51 c51) (.slice A61 n61 c61) (.slice A71 n71 c71)) (fun b hb hlt=>⟨oM,by simp;omega⟩)));have kqq120:=@Hz _ @nn324;exact qq120):p:=h
theorem qq13(h:p:=by
 have kqq73:=@Hz _ @nn197;exact qq73):p:=h
theorem qq14(h:p:=by
 cases hW with
 | mk h1 h2 h3 h4 h5' h6' =>
 cases hx with
 | mk d5 d6 h5 e5 h6 e6 =>
 have HK0:=Hz hk0;clear hk0;have IH:=Hz ih;have H5:=Hz h5;have H6:=Hz h6;have E5:Hid (∀ (i:Nat) (x:LB),ls[i]?=some x→d5 i=Gk x):=Hz e5;have E6:Hid (∀ (i:Nat) (x:Al),args[i]?=some x→Bw w0 ok x (d6 i)):=Hz e6;have HW6:Hid (∀ (i:Nat) (x:Al),args[i]?=some x→WlP x):=Hz h6';have H:=Hz h;have HN:=Hz hN;have HB:=Hz hb;have HM:=Hz hm;have hP:=h.lt;have b3:ls.length≤8796093022208:=by unfold reachBytes at h3;omega
 have b4:args.length≤1353245080300:=by unfold reachBytes at h5';omega
 obtain⟨m0,m1,m2,m3,y0,y1,y2,y3⟩:=h.cells;obtain⟨i0,hi,hz0,hz1,hz2⟩:=info_parts I5;have HI:=Hz hi;have HZ0:=Hz hz0;have HZ1:=Hz hz1;have HZ2:=Hz hz2;clear hi hz0 hz1 hz2;clear ih h5 e5 h6 e6 hN h1 h2 h3 h4 h5' h6' h hb hm;have hk:=HK0.out;exact kqq14.out):p:=h
theorem qq15(h:p:=by
 have kqq332:=@Hz _ @nn623;exact qq332):p:=h
theorem qq16(h:p:=by
 have g0:=f1.keep g0 nE;obtain⟨⟨l0,l1,l2,l3,l4,l5,l6,l7⟩,_⟩:=Ac (f1.keep q0 nE);have hx0:=hx0.keep (ok':=fun b=>B<b) (Sh.of_fr f1 (fun b hb hlt=>⟨hb.1,fun x=>by cases x⟩));have HG:=Hz (Aq g0 (vI k0) (vI a0) (vS nm0) (vI n0) (vS s0) (.slice A50 n50 c50) (.slice A60 n60 c60) (.slice A70 n70 c70));have HF:=Hz ((F.trans0 f1).step (Aj y1 B (vI k0) (vI a0) (vS nm0) (vI n0) (vS s0) (.slice A50 n50 c50) (.slice A60 n60 c60) (.slice A70 n70 c70)) (fun x hx => .inr (by simp at hx;omega)));have HP:=Hz (((h0.fr f1)).frL (Aj y1 B (vI k0) (vI a0) (vS nm0) (vI n0) (vS s0) (.slice A50 n50 c50) (.slice A60 n60 c60) (.slice A70 n70 c70)) (by simpa using nP) (by simpa using ng));have HX:Hid (Ak (st8 y1 B (vI k0) (vI a0) (vS nm0) (vI n0) (vS s0) (.slice A50 n50 c50) (.slice A60 n60 c60) (.slice A70 n70 c70)) (fun b=>B≤b) (.mk k0 a0 nm0 n0 s0 ls0 args0 arms0) [vI k0,vI a0,vS nm0,vI n0,vS s0,.slice A50 n50 c50,.slice A60 n60 c60,.slice A70 n70 c70]):=Hz ((hx0).keep (Sh.of_fr (Aj y1 B (vI k0) (vI a0) (vS nm0) (vI n0) (vS s0) (.slice A50 n50 c50) (.slice A60 n60 c60) (.slice A70 n70 c70)) (fun b hb hlt=>⟨oM,by simp;omega⟩)));have kqq120:=@Hz _ @nn323;exact qq120):p:=h
theorem qq17(h:p:=by
 rintro e x1 ⟨k1,a1,nm1,n1,s1,ls1,args1,arms1,A51,n51,c51,A61,n61,c61,A71,n71,c71,st1,rfl,hx1,hr1,hst1,f1⟩;have g0:=f1.keep g0 (by simpa using nB);have hs1:=f1.size;have F1:Fr [P] w x1:=(f0.mono (fun x hx=>by cases hx)).trans f1;go_wp2_with fail;have kqq33:=@Hz _ @nn107;exact qq33):p:=h
theorem qq18(h:p:=by
 have kqq56:=@Hz _ @nn161;exact qq56):p:=h
theorem qq19(h:p:=by
 have HP:=Hz ((hst2).frL (Aj x6 B (vI k2) (vI a2) (vS nm2) (vI n2) (vS s2) (.slice A52 n52 c52) (.slice A62 n62 c62) (.slice A72 n72 c72)) (by simpa using nP) (by simpa using ng));have HX:Hid (Ak (st8 x6 B (vI k2) (vI a2) (vS nm2) (vI n2) (vS s2) (.slice A52 n52 c52) (.slice A62 n62 c62) (.slice A72 n72 c72)) (fun b=>B≤b) (.mk k2 a2 nm2 n2 s2 ls2 args2 arms2) [vI k2,vI a2,vS nm2,vI n2,vS s2,.slice A52 n52 c52,.slice A62 n62 c62,.slice A72 n72 c72]):=Hz ((hx2).keep (Sh.of_fr (Aj x6 B (vI k2) (vI a2) (vS nm2) (vI n2) (vS s2) (.slice A52 n52 c52) (.slice A62 n62 c62) (.slice A72 n72 c72)) (fun b hb hlt=>⟨oM,by simp;omega⟩)));have kqq120:=@Hz _ @nn316;exact qq120):p:=h
theorem qq20(h:p:=by
 clear hK K
 all_goals
  clear M5 M6 u0 u1 u2 u3 u4 u5 u6 u7 z0 z1 z2 z3 z4 z5 z6 z7 l0 l1 l2 l3 l4 l5 l6 l7 m0 m1 m2 m3 v0 v1 v2 v3 v4 v5 v6 v7;have f4:Fr [P] y3 y4:=((Fr.refl [P] y3).drew).trans f4;have f5:Fr [] (y4.alloc (.cells #[vI k0,vI a0,vS nm0,vI n0,vS s0,.slice A50 n50 c50,.slice A60 n60 c60,.slice A70 n70 c70,vI k2,vI a2,vS nm2,vI n2,vS s2,.slice A52 n52 c52,.slice A62 n62 c62,.slice A72 n72 c72] 27)) y5:=f5;have hs4:=f4.size;have hx0:=hx0.keep (ok':=fun b=>B<b∧¬ b=T3∧¬ b=P) (Sh.of_fr f4 (fun b hb hlt=>⟨⟨hb.1,hb.2.1,hb.2.2.1⟩,by simp;omega⟩));have hx2:=hx2.keep (ok':=fun b=>B<b∧¬ b=T3∧¬ b=P) (Sh.of_fr (Fr.refl [] y4) (fun b hb hlt=>⟨by have:y3.heap.size≤b:=hb;exact⟨oM,oM,oM⟩,fun x=>by cases x⟩));have row4:=An.lit2 As (T:=27) (size:=8) (ok:=fun b=>B<b∧¬ b=T3∧¬ b=P) hx0 hx2 rfl rfl (by exact⟨oM,oM,oM⟩);have row5:=An.keep (ok':=fun b=>B<b∧¬ b=T3∧¬ b=P) As row4 (Sh.of_fr f5 (fun b hb hlt=>⟨hb,fun x=>by cases x⟩));have f45:Fr [P] y3 y5:=f4.trans0 (((Fr.refl [] y4).alloc _).trans f5);have h5:=hst2.fr (((Fr.refl [] y4).alloc (.cells #[vI k0,vI a0,vS nm0,vI n0,vS s0,.slice A50 n50 c50,.slice A60 n60 c60,.slice A70 n70 c70,vI k2,vI a2,vS nm2,vI n2,vS s2,.slice A52 n52 c52,.slice A62 n62 c62,.slice A72 n72 c72] 27)).trans f5);have g0:=f45.keep g0 (by simpa using nB);have hx0:=hx0.keep (ok':=fun b=>B<b∧¬ b=T3∧¬ b=P) (Sh.of_fr (((Fr.refl [] y4).alloc (.cells #[vI k0,vI a0,vS nm0,vI n0,vS s0,.slice A50 n50 c50,.slice A60 n60 c60,.slice A70 n70 c70,vI k2,vI a2,vS nm2,vI n2,vS s2,.slice A52 n52 c52,.slice A62 n62 c62,.slice A72 n72 c72] 27)).trans f5) (fun b hb hlt=>⟨hb,fun x=>by cases x⟩));have hne4:¬ B=T3:=by omega
  have hle2:=hr2.le;have HG:=Hz (Aq R4 (vI 19) (vI u.at') (vE) (vI (Bm u.text)) (vE) (vZ) (.slice (some ⟨y4.heap.size,0,none⟩) 2 2) (vZ));have HB0:=Hz ((Aj y5 T3 (vI 19) (vI u.at') (vE) (vI (Bm u.text)) (vE) (vZ) (.slice (some ⟨y4.heap.size,0,none⟩) 2 2) (vZ)).keep g0 sO);have HF:=Hz ((F3.trans f45).step (Aj y5 T3 (vI 19) (vI u.at') (vE) (vI (Bm u.text)) (vE) (vZ) (.slice (some ⟨y4.heap.size,0,none⟩) 2 2) (vZ)) (fun x hx => .inr (by simp at hx;omega)));have HP:=Hz ((h5).frL (Aj y5 T3 (vI 19) (vI u.at') (vE) (vI (Bm u.text)) (vE) (vZ) (.slice (some ⟨y4.heap.size,0,none⟩) 2 2) (vZ)) sO sO);have HS:=Hz (E0 y5 T3 (vI 19) (vI u.at') (vE) (vI (Bm u.text)) (vE) (vZ) (.slice (some ⟨y4.heap.size,0,none⟩) 2 2) (vZ));have HX0:Hid (Ak (st8 y5 T3 (vI 19) (vI u.at') (vE) (vI (Bm u.text)) (vE) (vZ) (.slice (some ⟨y4.heap.size,0,none⟩) 2 2) (vZ)) (fun b=>B<b∧¬ b=T3∧¬ b=P) (.mk k0 a0 nm0 n0 s0 ls0 args0 arms0) [vI k0,vI a0,vS nm0,vI n0,vS s0,.slice A50 n50 c50,.slice A60 n60 c60,.slice A70 n70 c70]):=Hz ((hx0).keep (Sh.of_fr (Aj y5 T3 (vI 19) (vI u.at') (vE) (vI (Bm u.text)) (vE) (vZ) (.slice (some ⟨y4.heap.size,0,none⟩) 2 2) (vZ)) (fun b hb hlt=>⟨hb,by simp;exact hb.2.1⟩)));have HW0:=Hz (An.keep (ok':=fun b=>B<b∧¬ b=T3∧¬ b=P) As row5 (Sh.of_fr (Aj y5 T3 (vI 19) (vI u.at') (vE) (vI (Bm u.text)) (vE) (vZ) (.slice (some ⟨y4.heap.size,0,none⟩) 2 2) (vZ)) (fun b hb hlt=>⟨hb,by simp;exact hb.2.1⟩)));unfold st8 at HG HB0 HF HP HS HX0 HW0;go_wp2_with fail;generalize (((((((y5.setCell ⟨T3,0,none⟩ (vI 19)).setCell ⟨T3,1,none⟩ (vI u.at')).setCell ⟨T3,2,none⟩ (vE)).setCell ⟨T3,3,none⟩ (vI (Bm u.text))).setCell ⟨T3,4,none⟩ (vE)).setCell ⟨T3,5,none⟩ (vZ)).setCell ⟨T3,6,none⟩ (.slice (some ⟨y4.heap.size,0,none⟩) 2 2)).setCell ⟨T3,7,none⟩ (vZ)=Z at HG HB0 HF HP HS HX0 HW0 ⊢;have hZ4:=Aa HG.out;have hxx:=Ak.of_rows (k:=19) (a:=u.at') (nm:=[]) (n:=Bm u.text) (s:=[]) (c5:=fun _=>[]) (c7:=fun _=>[]) An.nil_ HW0.out An.nil_;have hPz:=HP.out;have hpl:=hPz.pl;have hpl0:=h0.pl;have hin0:=h0.inb;simp only at hle2
  go_roundw
  case rel=>exact⟨19,u.at',[],Bm u.text,[],[],[(.mk k0 a0 nm0 n0 s0 ls0 args0 arms0),(.mk k2 a2 nm2 n2 s2 ls2 args2 arms2)],[],none,0,0,some ⟨y4.heap.size,0,none⟩,2,2,none,0,0,st2,HF.out,hBT,by exact hZ4,HB0.out,HG.out,hxx,hPz,oM,Hz (fun x st' h=>HR.out _ _ (.look hu (by rw[if_pos hc];exact .adv (.callE hr2 (.callE h .retE)))))⟩
  case measure=>rw[hpl,hpl0];omega):p:=h
theorem qq21(h:p:=by
 (try simp only[Act.put,sX])
 refine wpAnyH_done kR ?_ _;refine Ea rfl (fun Q'=>?_);go_simp;refine hK.out _ _ ?_;clear hK K
 all_goals
  have f6:=(Fr.refl [] x6).alloc (.cells #[vI k1,vI v1,vI n1,.string ⟨s1⟩,.slice B4 n4 d4,.slice B5 n5 d5'] 76);have hr6:Gc (x6.alloc (.cells #[vI k1,vI v1,vI n1,.string ⟨s1⟩,.slice B4 n4 d4,.slice B5 n5 d5'] 76)) (TOk X5 A2) (.slice A9 i c9) XS cs:=HRW.out.keep Br (fun b hb hlt=>⟨hb,f6.block b hlt (fun x=>by cases x),Nl' hlt f6.size⟩);have ht6:Cs (x6.alloc (.cells #[vI k1,vI v1,vI n1,.string ⟨s1⟩,.slice B4 n4 d4,.slice B5 n5 d5'] 76)) (TOk w7.drew.heap.size A2) _ [vI k1,vI v1,vI n1,.string ⟨s1⟩,.slice B4 n4 d4,.slice B5 n5 d5']:=hT6.keep (fun b hb hlt=>⟨hb,f6.block b hlt (fun x=>by cases x),Nl' hlt f6.size⟩);have hs6:=(KS.out.trans (Stp.before HF7.out.drew hst6)).fr0 f6;have hz7:=HF7.out.size;have hKZ:=KZ.out;have hz6:=hst6.2.1.size;have hd7:w7.drew.heap.size=w7.heap.size:=rfl;have hfin:=Hr (w:=w) (w1:=w7.drew) (B:=X5) Br hr6 rfl ht6 oM oM (by have:=f6.size;omega) (fun gg hgg=>by have:=KR.out.own_lt gg hgg;omega) hP H.out.le hs6 (by rw[HLEN.out];exact hown9) hgrow9 hfp9;rw[← HTK.out.1,← HTK.out.2] at hfin
  have hKA2:∀ a,A2=some a→a.block<w.heap.size∨w.heap.size+3≤a.block:=fun a e=>by
   rcases hst6.2.2 a e with h1|h1
   ·exact KA.out a h1
   ·right;omega
  have k6:=hst6.2.1.keep (w:=w7.drew) (HF7.out.keep K1.out (fun x=>by cases x)) HnR.out;have k9:=(hgrow9.block R (Aa (Ae k6 _)) HRB.out).trans (Ae k6 _);have fT:Fr [T] w9 (w9.setCell ⟨T,5,none⟩ (.slice (some ⟨g9,0,none⟩) (i+1) cp9)):=(Fr.refl [T] w9).setCell (p:=⟨T,5,none⟩) (.inl sM) _;have r1:=Hz (fT.keep k9 sO);have r2:Hid ((w9.setCell ⟨T,5,none⟩ (.slice (some ⟨g9,0,none⟩) (i+1) cp9)).heap[T]?=some (.cells #[vI k,vI V,vI n,vS sx,.slice A4 lsx.length c4,.slice (some ⟨g9,0,none⟩) (i+1) cp9] 76 (0,0))):=Hz (by simp[World.setCell,Array.getElem?_modify,G9]);have r3:=Hz (hfin.1.keep Br (w':=w9.setCell ⟨T,5,none⟩ (.slice (some ⟨g9,0,none⟩) (i+1) cp9)) (ok':=TOk X5 A2) (fun b hb hlt=>⟨hb,fT.block b hlt (by have:=hb.1;simp;omega),Nl' hlt fT.size⟩));have r4:=Hz (hfin.2.fresh fT sO (fun a e=>by have:=hKA2 a e;simp;omega) H.out.le (fun x hx=>by simp at hx;omega));have r5:=Hz hKA2;have r6:Hid (X5≤(w9.setCell ⟨T,5,none⟩ (.slice (some ⟨g9,0,none⟩) (i+1) cp9)).heap.size):=Hz (by have h1:=fT.size;have h2:=hgrow9.size;have h3:=f6.size;omega)
  have r7:Hid (Gp (w9.setCell ⟨T,5,none⟩ (.slice (some ⟨g9,0,none⟩) (i+1) cp9)) (LOk (w.heap.size+3) X5 A2) (.slice A4 lsx.length c4) lsx cs4):=Hz (KL.out.keep Cg (fun b hb hlt=>by
   have hb1:=hb.1.1
   have hb2:=hb.2
   have hnb:b ∉ scL P A':=fun hx=>by
    rcases Ay.1 hx with e|⟨a,e,e2⟩
    ·omega
    ·exact hb.1.2 a e e2.symm
   have c1:=HF7.out.block b hlt (fun x=>by cases x)
   have c2:=hst6.2.1.block (w:=w7.drew) b oM hnb
   have c3:=f6.block b oM (fun x=>by cases x)
   have h3:=f6.size
   have c4':=hgrow9.block b oM (fun e=>by have:=(KR.out.blk b e.symm).1;omega)
   have c5':=fT.block b (by have:=hgrow9.size;omega) sO
   refine⟨⟨⟨hb1,hst6.apart hb.1.2 oM⟩,hb2⟩,c5'.trans (c4'.trans (c3.trans (c2.trans c1))),?_⟩
   have:=hgrow9.size;have:=fT.size;omega))
  clear f6 hr6 ht6 hs6 hfin hKA2 k6 k9 fT hown9 hgrow9 hfp9 G9 M9 Q9 u0 u1 u2 u3 u4 u5 z0 z1 z2 z3 z4 z5 G6 Q6 M7 hst6 hT6;go_wp2_with fail
  go_roundw
  case rel=>exact⟨i+1,_,_,_,A2,c2,by go_num,oM,r1,r2,r3,r4,r7,r5,r6⟩
  case measure=>simp[intOf];omega):p:=h
theorem qq22(h:p:=by
 clear h3;clear ht h1 h2 h4 h5
 cases hq:B3.find? (fun x=>x.isPrefixOf s.data.toList)with
 | none =>
  rw[Mo hq] at cs;clear hq;simp only;have kqq13:=@Hz _ @nn34
  exact qq13
 | some X =>
  have kqq137:=@Hz _ @nn339;exact qq137):p:=h
theorem qq23(h:p:=by
 have fy:Fr [] x (x.alloc (.cells #[.bool bv,.bool bn,.bool bs,vI ha] 98)).drew:=((Fr.refl [] x).alloc (.cells #[.bool bv,.bool bn,.bool bs,vI ha] 98)).drew;have hY:=hX.fr0 fy;have G0:=fy.keep g0 nE;have G1:=fy.keep g1 nE;have G2:=fy.keep g2 nE
 have G3:(x.alloc (.cells #[.bool bv,.bool bn,.bool bs,vI ha] 98)).drew.heap[w.heap.size+3]?=some (.cells #[.bool bv,.bool bn,.bool bs,vI ha] 98):=by
  have:=Ag x (.cells #[.bool bv,.bool bn,.bool bs,vI ha] 98)
  rwa [z0] at this
 have HFY:=f0.trans fy
 generalize (x.alloc (.cells #[.bool bv,.bool bn,.bool bs,vI ha] 98)).drew=y at *
 clear b0 b1 b2 b3 b4 b5 b6 b7 b8 b9 q0 q1 q2 q3 q4 hk1 hk2 g0 g1 g2 hX fy f0 z0 hg0 hg1 hg2 hqx p0 p1 p2 p3 p4 y0 y2;have HAP:Hid (∀ k,w.heap.size≤k→k<w.heap.size+4→Ki Q E A k y):=Hz (fun k h1 h2=>⟨oM,oM,fun a e=>by have:=HOL.out a e;omega,by have:=Aa G3;omega⟩);obtain⟨⟨b1,b2,b3,b4,b5,b6,b8,b9⟩,_⟩:=Ac G1;have b0:=Ab G0 0;have b7:=Ab G2 0;have s0:=Ab G3 0;have s1:=Ab G3 1;have s2:=Ab G3 2;have s3:=Ab G3 3;go_wp2_with fail;refine(cP y hY).out.mono ?_;rintro e y5 ⟨rfl,hst⟩;replace G0:=((HAP.out _ oM oM).step hst).1.trans G0;replace G1:=((HAP.out _ oM oM).step hst).1.trans G1;replace G2:=((HAP.out _ oM oM).step hst).1.trans G2;replace G3:=((HAP.out _ oM oM).step hst).1.trans G3;have HS5:=Hz (Gi.before HFY hst);clear hst cP hY HFY HAP;clear b0 b1 b2 b3 b4 b5 b6 b7 b8 b9 s0 s1 s2 s3;obtain⟨⟨b1,b2,b3,b4,b5,b6,b8,b9⟩,_⟩:=Ac G1;have b0:=Ab G0 0;have b7:=Ab G2 0;have s0:=Ab G3 0;have s1:=Ab G3 1;have s2:=Ab G3 2;have s3:=Ab G3 3;go_wp2_with fail;refine(cM y5).out.mono ?_;rintro e y6 ⟨rfl,f6⟩;replace G0:=f6.keep G0 nE;replace G1:=f6.keep G1 nE;replace G2:=f6.keep G2 nE;replace G3:=f6.keep G3 nE;have HS6:=Hz (HS5.out.fr0 f6);clear f6 HS5 cM;clear b0 b1 b2 b3 b4 b5 b6 b7 b8 b9 s0 s1 s2 s3;obtain⟨⟨b1,b2,b3,b4,b5,b6,b8,b9⟩,_⟩:=Ac G1;have b0:=Ab G0 0;have b7:=Ab G2 0;have s0:=Ab G3 0;have s1:=Ab G3 1;have s2:=Ab G3 2;have s3:=Ab G3 3;go_wp2_with fail;refine(cO y6 HS6.out.1.fr).out.mono ?_;rintro e y7 ⟨rfl,f7⟩;replace G0:=f7.keep G0 nE;replace G1:=f7.keep G1 nE;replace G2:=f7.keep G2 nE;replace G3:=f7.keep G3 nE;have HS7:=Hz (HS6.out.fr0 f7);clear f7 HS6 cO;clear b0 b1 b2 b3 b4 b5 b6 b7 b8 b9 s0 s1 s2 s3;obtain⟨⟨b1,b2,b3,b4,b5,b6,b8,b9⟩,_⟩:=Ac G1;have b0:=Ab G0 0;have b7:=Ab G2 0;have s0:=Ab G3 0;have s1:=Ab G3 1;have s2:=Ab G3 2;have s3:=Ab G3 3;obtain⟨q0,q1,q2,q3,q4,_,_⟩:=HS7.out.1.cells;have hg0:=Aa G0;have hg1:=Aa G1;have hg2:=Aa G2;have hg3:=Aa G3;have hqx:=HS7.out.1.lt.1;go_wp2_with fail;have f8:=(Fr.refl [] y7).alloc (.cells #[vI C.one.now.length] 3);have G9:=Ag y7 (.cells #[vI C.one.now.length] 3);replace G0:=f8.keep G0 nE;replace G1:=f8.keep G1 nE;replace G2:=f8.keep G2 nE;replace G3:=f8.keep G3 nE;have HS8:=Hz (HS7.out.fr0 f8);have hB9:w.heap.size+4≤y7.heap.size:=by omega
 generalize hB:y7.heap.size=B9 at *
 generalize y7.alloc (.cells #[vI C.one.now.length] 3)=y8 at *
 have HAP8:Hid (∀ k,w.heap.size≤k→k<y8.heap.size→Ki Q E A k y8):=Hz (fun k h1 h2=>⟨oM,oM,fun a e=>by have:=HOL.out a e;omega,h2⟩);have hg9:=Aa G9;clear f8 HS7 q0 q1 q2 q3 q4;clear b0 b1 b2 b3 b4 b5 b6 b7 b8 b9 s0 s1 s2 s3;obtain⟨⟨b1,b2,b3,b4,b5,b6,b8,b9⟩,_⟩:=Ac G1;have b0:=Ab G0 0;have b7:=Ab G2 0;have s0:=Ab G3 0;have s1:=Ab G3 1;have s2:=Ab G3 2;have s3:=Ab G3 3;exact kqq23.out):p:=h
theorem qq24(h:p:=by
 have T0:=TSt.start H.out (.cells #[vI k,vI a,vS nm,vI n,vS s,.slice A5 ls.length c5,.slice A6 args.length c6,.slice A7 arms.length c7] 27) #[vI 0,vI a,vI 0,vI 0,vE,vZ,vZ,vZ];have c0:=(((((Fr.refl [] w).alloc (.cells #[vI k,vI a,vS nm,vI n,vS s,.slice A5 ls.length c5,.slice A6 args.length c6,.slice A7 arms.length c7] 27)).alloc Dj).alloc (.cells #[vI 0,vI a,vI 0,vI 0,vE,vZ,vZ,vZ] 34)).cell (p:=⟨P,0,none⟩) hP (fun x=>by cases x)).trans m0;go_enter func20,ntmps20;go_wp2_with fail
 generalize ((w.alloc (.cells #[vI k,vI a,vS nm,vI n,vS s,.slice A5 ls.length c5,.slice A6 args.length c6,.slice A7 arms.length c7] 27)).alloc Dj).alloc (.cells #[vI 0,vI a,vI 0,vI 0,vE,vZ,vZ,vZ] 34)=x5 at *
 clear c0;exact kqq24.out):p:=h
theorem qq25(h:p:=by
 go_wp2_with fail;have n34:¬ T3=T4:=by omega
 have n3B:¬ T3=B:=by omega
 have nB3:¬ B=T3:=by omega
 have n4B:¬ T4=B:=by omega
 have nB4:¬ B=T4:=by omega
 clear fb1 fb4 f1 f3 f4 h2 h4 F1 F2 F4 hst1 IH HN H
 go_region_held3 (fun w'=>w'.cell? ⟨T4,1,none⟩=some (vI t.at')∧(w'.cell? ⟨T3,0,none⟩=some (vI k1)∧w'.cell? ⟨T3,1,none⟩=some (vI a1)∧w'.cell? ⟨T3,2,none⟩=some (vS nm1)∧w'.cell? ⟨T3,3,none⟩=some (vI n1)∧w'.cell? ⟨T3,4,none⟩=some (vS s1)∧w'.cell? ⟨T3,5,none⟩=some (.slice A51 n51 c51)∧w'.cell? ⟨T3,6,none⟩=some (.slice A61 n61 c61)∧w'.cell? ⟨T3,7,none⟩=some (.slice A71 n71 c71))) (first|go_keep|exact⟨M4.2.1,M3.1⟩) ((refine(cS _ (h5.fr (Fr.refl [] x5).drew)).out.mono ?_;rintro e x6 ⟨k2,a2,nm2,n2,s2,ls2,args2,arms2,A52,n52,c52,A62,n62,c62,A72,n72,c72,st2,rfl,hx2,hr2,hst2,f6⟩;have Q1:=f6.keep (w:=x5.drew) q1 sO;have Q4:=f6.keep (w:=x5.drew) q4 sO;have hT36:=Aa Q1;have hT46:=Aa Q4;have M3:=Ac Q1;have M4:=Ar Q4;have G6:=f6.keep (w:=x5.drew) g0 (by simpa using nB);have hB6:=Aa G6;obtain⟨⟨u0,u1,u2,u3,u4,u5,u6,u7⟩,z0,z1,z2,z3,z4,z5,z6,z7⟩:=Ac G6))
 clear M3 M4 Q1 Q4 u0 u1 u2 u3 u4 u5 u6 u7 z0 z1 z2 z3 z4 z5 z6 z7 l0 l1 l2 l3 l4 l5 l6 l7 m0 m1 m2 m3;have f6:Fr [P] x5 x6:=((Fr.refl [P] x5).drew).trans f6;have hx1:=hx1.keep (ok':=fun b=>B<b) (Sh.of_fr f6 (fun b hb hlt=>⟨hb.1,by simp;omega⟩));have kqq323:=@Hz _ @nn602;exact qq323):p:=h
theorem qq26(h:p:=by
 cases hv;obtain⟨hcl,hcc⟩:=hcs i hlt;have hcell:∀ (j:Nat) (v:Value),(cp i++ce i)[j]?=some v→wr.cell? ⟨g,og+i * 15+j,none⟩=some v:=fun j v hj=>(f.cell (p:=⟨g,og+i * 15+j,none⟩) hgs sO).trans (hcc j v hj)
 have hgw:g<wr.heap.size:=Nl' hgs (by have:=f.size;omega);clear hcc hcs
 generalize hci:cp i=ci at *
 generalize hce:ce i=cj at *
 have hyw:=hyx.keep (w':=wr) (ok':=fun b=>b<lo) (Sh.of_fr f (fun b hb hlt=>⟨hb,by simp;omega⟩));have hpw:=hpx.keep (w':=wr) (ok':=fun b=>b<lo) (Sh.of_fr f (fun b hb hlt=>⟨hb,by simp;omega⟩))
 cases hpx with
 | @mk k3 a3 nm3 n3 s3 ls3 args3 v53 v63 c53 c63 h53 e53 h63 e63 =>
 cases hyx with
 | @mk k2 a2 nm2 n2 s2 ls2 args2 arms2 v52 v62 v72 c52 c62 cp2 ce2 h52 e52 h62 e62 h72 e72 e82 =>
 have hf:∃ A m cc,v53 = .slice A m cc:=by obtain⟨_,_,hv⟩:=h53.form;exact⟨_,_,_,hv⟩
 obtain⟨A53,m53,cc53,rfl⟩:=hf;have hf:∃ A m cc,v63 = .slice A m cc:=by obtain⟨_,_,hv⟩:=h63.form;exact⟨_,_,_,hv⟩
 obtain⟨A63,m63,cc63,rfl⟩:=hf;have kqq153:=@Hz _ @nn366;exact qq153):p:=h
theorem qq27(h:p:=by
 intro w hSw;(try dsimp only at hSw);go_simp;(try with_reducible rfl)):p:=h
theorem qq28(h:p:=by
 cases hv;obtain⟨hcl,hcc⟩:=hcs i hlt;have hcell:∀ (j:Nat) (v:Value),(c6 i)[j]?=some v→wr.cell? ⟨g,og+i * 8+j,none⟩=some v:=fun j v hj=>(f.cell (p:=⟨g,og+i * 8+j,none⟩) hgs sO).trans (hcc j v hj)
 have hgw:g<wr.heap.size:=Nl' hgs (by have:=f.size;omega)
 generalize hci:c6 i=ci at *
 have hyw:=hyx.keep (w':=wr) (ok':=fun b=>b<lo) (Sh.of_fr f (fun b hb hlt=>⟨hb,by simp;omega⟩))
 cases hyx with
 | @mk k2 a2 nm2 n2 s2 ls2 args2 arms2 v52 v62 v72 c52 c62 cp2 ce2 h52 e52 h62 e62 h72 e72 e82 =>
 have kqq153:=@Hz _ @nn365;exact qq153):p:=h
theorem qq29(h:p:=by
 have R0:=h7.2.1.keep Q0 (hnn _ oM);have R1:=h7.2.1.keep Q1 (hnn _ oM);have R2:=h7.2.1.keep Q2 (hnn _ oM);have hz7:=h7.2.1.size;obtain⟨⟨l0,l1,l2,l3,l4,l5,l6⟩,_⟩:=Ao R0;have cB7:=cB x7 SF A c h7.1 (SB.step (j:=0) (hsb.mono (by simp only[szP];omega)) HGR.out);have H7:=Hz h7;clear h7 cB Q0 Q1 Q2;go_wp2_with fail;refine cB7.out.mono ?_;rintro e x8 ⟨A1,c1,rfl,h8⟩;clear cB7 l0 l1 l2 l3 l4 l5 l6;have Q0:=h8.2.1.keep R0 (hnn _ oM);have Q1:=h8.2.1.keep R1 (hnn _ oM);have Q2:=h8.2.1.keep R2 (hnn _ oM);obtain⟨⟨l0,l1,l2,l3,l4,l5,l6⟩,_⟩:=Ao Q0;obtain⟨⟨u0,u1,u2,u3,u4,u5⟩,z10,z11,z12,z13,z14,z15⟩:=Bl Q2;have H8:=Hz h8;clear h8;go_wp2_with fail;have fT:Fr [w.heap.size+1+1] x8 (x8.setCell ⟨w.heap.size+1+1,1,none⟩ (vI SF.n)):=(Fr.refl _ x8).setCell (p:=⟨w.heap.size+1+1,1,none⟩) (.inl sM) _;have hz8:=H8.out.2.1.size;have hsN:=HSN.out
 have hX:(tmP (.mk k a nm n s ls args) m S)=(.mk k SF.n n s [] (Bt args m (SF.bind nm)).1,(Bt args m (SF.bind nm)).2):=by
  rw[Hl];have hk:=HK.out;unfold preP;simp only[if_pos (show k=2 by omega),if_neg (show ¬ k=9 by omega),if_neg (show ¬ (k=7∨k=8) by omega)];have e8:(if (S.l.drop m).any (fun b=>b.1==nm)=true then S.fail 24 a else S)=SF:=by rw[HRR.out,HSF.out] <;> simp
  rw[e8,hsN.2]
 have hA1:∀ a,A1=some a→a.block<w.heap.size∨w.heap.size+3≤a.block:=fun a e=>by
  rcases H8.out.2.2 a e with h|h
  ·exact .inl (H.out.own_lt a h)
  ·right;omega
 have hst8:=(Stp.before F6.out H7.out).trans H8.out;have hbn:=Gd SF nm
 have hpre:Mc w0 P A w S k a nm n s ls args m (x8.setCell ⟨w.heap.size+1+1,1,none⟩ (vI SF.n)):=⟨SF.n,s,[],none,0,fun _=>[],SF.bind nm,A1,c1,hX,fT.keep Q1 sM,by simp[World.setCell,Array.getElem?_modify,Q2],An.nil_,hst8.fresh fT sO (fun a e=>by have:=hA1 a e;simp;omega) H.out.le (fun x hx=>by simp at hx;omega),SB.step (j:=0+1) (hsb.mono (by simp only[szP];omega)) (HGR.out.trans (Gr.bind SF nm)),by obtain⟨r,hr⟩:=hbn;rw[hr,La',hsN.1];have:=HM.out;omega,hA1,by have:=fT.size;omega⟩
 have HPRE:=Hz hpre
 generalize x8.setCell ⟨w.heap.size+1+1,1,none⟩ (vI SF.n)=x5 at *
 clear hpre hX t2 t7 t8 t9 HK l0 l1 l2 l3 l4 l5 l6 u0 u1 u2 u3 u4 u5 z10 z11 z12 z13 z14 z15 fT hz8 hsN hA1 hst8 hbn Q0 Q1 Q2 R0 R1 R2 hz7 hz6 hnn hsb):p:=h
theorem qq30(h:p:=by
 have kqq114:=@Hz _ @nn296;exact qq114):p:=h
theorem qq31(h:p:=by
 have hRR:(S.l.drop m).any (fun b=>b.1==nm)=RR:=HQ.out.2.trans hrr.symm;have HRX:=Hz hrr;clear hrr;have HRR:=Hz hRR
 have cC:∀ W,Fr [] w W→W.cell? ⟨w.heap.size,2,none⟩=some (vS nm)→w.heap.size<W.heap.size→Hid (Calls prog 119 #[.slice (if c-m=0 then A else A.map (fun x=>x.add (m * 2))) (S.l.length-m) (c-m),.func (.func 120) #[] #[.pointer (some ⟨w.heap.size,0,none⟩)]] W fun e w'=>e = .returned (.bool RR)∧Fr [] W w'):=fun W hf hc hlt=>Hz (by
  by_cases h:c-m=0
  ·have hd:S.l.drop m=[]:=List.drop_eq_nil_of_le oM
   have hl0:S.l.length-m=([]:List Bnd).length:=by simp;omega
   rw[if_pos h,hl0]
   have:=Ex A 0 (c-m) [] w.heap.size nm sM W (fun i x hx=>by simp at hx) hc hlt
   rw[← hd,hRR] at this
   rw[← hd]
   exact this
  ·rw[if_neg h,← List.length_drop]
   have:=Ex (A.map (fun x=>x.add (m * 2))) (m * 2) (c-m) (S.l.drop m) w.heap.size nm (by rw[List.length_drop];have:=hsb.2.2;omega) W (fun i x hx=>by
    rw[List.getElem?_drop] at hx
    obtain⟨g,e,hg,h1,h2⟩:=H.out.name hx
    have e3:(m+i)* 2=m * 2+i * 2:=by omega
    rw[e3] at h1 h2
    refine⟨g,?_,Nl' hg hf.size,(hf.cell (p:=⟨g,m * 2+i * 2,none⟩) hg (fun x=>by cases x)).trans h1,(hf.cell (p:=⟨g,m * 2+i * 2+1,none⟩) hg (fun x=>by cases x)).trans h2⟩
    rw[e]
    show some _=some _
    congr 1
    generalize m * 2=q
    cases q <;> simp[Addr.add]) hc hlt
   rw[hRR] at this
   exact this)
 clear hRR;clear HQ;exact kqq31.out):p:=h
theorem qq32(h:p:=by
 refine Av rF _ _ 24 rF 27 i0 _ 8 128 underlying24 HI.out HZ0.out HZ1.out HZ2.out rfl dC (.slice (some ⟨gz,0,none⟩) 1 1) 1 (Co (fun _=>[vI k1,vI a1,vS nm1,vI n1,vS s1,.slice A51 n51 c51,.slice A61 n61 c61,.slice A71 n71 c71]) 1) rF ROW9.own ⟨x8.heap.size,0,none⟩ 1 1 [vI k2,vI a2,vS nm2,vI n2,vS s2,.slice A52 n52 c52,.slice A62 n62 c62,.slice A72 n72 c72] rF rfl (World.news_of_block (Ag x8 _)) (by simp[Value.oneCell']) dC dC ?_;intro v9 w9 hown9 hgrow9 hfp9;obtain⟨g9,cp9,hv9⟩:∃ g cap,v9 = .slice (some ⟨g,0,none⟩) (2) cap:=Cd hown9
 have kqq244:=@Hz _ @nn478;exact qq244):p:=h
theorem qq33(h:p:=by
 have q1:=Ag x1 (.cells #[vI k1,vI a1,vS nm1,vI n1,vS s1,.slice A51 n51 c51,.slice A61 n61 c61,.slice A71 n71 c71] 27);have fb1:Fr [] x1 (x1.alloc (.cells #[vI k1,vI a1,vS nm1,vI n1,vS s1,.slice A51 n51 c51,.slice A61 n61 c61,.slice A71 n71 c71] 27)):=(Fr.refl [] x1).alloc _
 generalize hY1:x1.alloc (.cells #[vI k1,vI a1,vS nm1,vI n1,vS s1,.slice A51 n51 c51,.slice A61 n61 c61,.slice A71 n71 c71] 27)=x2 at *
 have hT1:=Aa q1;exact kqq33.out):p:=h
theorem qq34(h:p:=by
 obtain⟨y,hy⟩:∃ y,args[i]?=some y:=⟨args[i],Lg' hlt⟩
 have q2:(i:Int)<(args.length:Int):=by omega
 obtain⟨g,o,rfl,hg,hc⟩:=H6.out.elem KS.out.1.fr hlt;have hwy:=HW6.out i y hy;have hsz:=Ht hy;have htk:=Hw hy m SP;have hlen:(Bt (args.take i) m SP).1.length=i:=by rw[Do,List.length_take];omega
 have hgr:=Iv (args.take i) m SP;obtain⟨r,hpre⟩:=He (args.take i) m SP;obtain⟨k2,a2,nm2,n2,s2,ls2,args2,A52,c52,A62,c62,rfl,hx2,x0,x1,x2,x3,x4,x5',x6'⟩:=(E6.out i y hy).told hc;have hSB:SB (Bt (args.take i) m SP).2 (szP (.mk k2 a2 nm2 n2 s2 ls2 args2)):=SB.step (SBH.out.mono oM) hgr;have hml:m≤(Bt (args.take i) m SP).2.l.length:=by rw[hpre,La'];have:=ML.out;omega
 generalize hXS:(Bt (args.take i) m SP).1=XS at *
 generalize hSS:(Bt (args.take i) m SP).2=SS at *
 have HTK:=Hz htk;have HLEN:=Hz hlen;have hszN:szP (.mk k2 a2 nm2 n2 s2 ls2 args2)<N:=by have:=HN.out;simp only[szP] at this hsz ⊢;omega
 have cS:=fun W hW=>Hz (IH.out k2 a2 nm2 n2 s2 ls2 args2 A52 A62 c52 c62 w0 W ok P SS A' c' m hszN hwy hx2 hW hSB hml)
 have f1:=(Fr.refl [] wr).alloc (.cells #[vI k2,vI a2,vS nm2,vI n2,vS s2,.slice A52 ls2.length c52,.slice A62 args2.length c62] 123);have p1:=Ag wr (.cells #[vI k2,vI a2,vS nm2,vI n2,vS s2,.slice A52 ls2.length c52,.slice A62 args2.length c62] 123);clear hc hwy hsz htk hlen hgr hx2 hXS hSS hy hpre;go_wp2_with fail
 generalize hw7:wr.alloc (.cells #[vI k2,vI a2,vS nm2,vI n2,vS s2,.slice A52 ls2.length c52,.slice A62 args2.length c62] 123)=w7 at *
 generalize hC:wr.heap.size=C at *
 have hPw:P<X5:=by omega
 have hTC:T<C:=by have:=KZ.out;omega
 have nTC:¬ T=C:=by omega
 have nCT:¬ C=T:=by omega
 have hnT:T ∉ scL P A':=fun hx=>by
  rcases Ay.1 hx with e|⟨a,e,e2⟩
  ·omega
  ·have:=KA.out a e;omega
 have hnC:C ∉ scL P A':=fun hx=>by
  rcases Ay.1 hx with e|⟨a,e,e2⟩
  ·omega
  ·have:=KS.out.1.own_lt a e;omega
 have hnR:R ∉ scL P A':=fun hx=>by
  rcases Ay.1 hx with e|⟨a,e,e2⟩
  ·omega
  ·have:=KA.out a e;omega
 have hRB:some R≠(Value.slice A9 i c9).ownBlock:=fun e=>by have:=(KR.out.blk R e.symm).1;omega
 have HnR:=Hz hnR;have HRB:=Hz hRB;clear hnR hRB;have hTB:some T≠(Value.slice A9 i c9).ownBlock:=fun e=>by have:=(KR.out.blk T e.symm).1;omega
 have hCB:some C≠(Value.slice A9 i c9).ownBlock:=fun e=>by have:=KR.out.own_lt C e.symm;omega
 have hs7:=KS.out.1.fr0 f1;have g7:=f1.keep K2.out (fun x=>by cases x);have hT7:=Aa g7;have hC7:=Aa p1;obtain⟨⟨l0,l1,l2,l3,l4,l5⟩,_⟩:=Bl g7;obtain⟨⟨e0,e1,e2,e3,e4,e5,e6⟩,_⟩:=Ao p1;have HF7:=Hz f1;clear x0 x1 x2 x3 x4 x5' x6' f1;exact kqq34.out):p:=h
theorem qq35(h:p:=by
 have kqq114:=@Hz _ @nn295;exact qq114):p:=h
theorem qq36(h:p:=by
 go_wp2_with fail;refine(must_yes _).mono ?_;rintro e w1 ⟨rfl,hw⟩;replace hb:=hb0.fr (w':=w1) (by rw[hw];((repeat first|exact Fr.refl _ _|refine Fr.alloc ?_ _|refine Fr.drew ?_|refine Fr.setCell ?_ (.inr sM) _)));clear hb0 hw
 generalize wr.heap.size=T at *
 obtain⟨⟨l0,l1,l2,l3,l4,l5,l6⟩,_⟩:=Ao (hb.at (Lm' ..));exact kqq36.out):p:=h
theorem qq37(h:p:=by
 have hform:∃ A7 n7 cc7,v7 = .slice A7 n7 cc7:=by
  rcases rowA.own.2 with⟨hv,_⟩| ⟨g',cap,cur,hv,_⟩
  ·exact qq286
  ·exact qq286
 obtain⟨A7,n7,cc7,rfl⟩:=hform;obtain⟨u,hu⟩:=Bn h0.inb;refine(Cp [101,110,100] P g c ts st0 u hu wr h0 HE.out).mono ?_;rintro e y1 ⟨rfl,h0,fm⟩;have g0:=fm.keep g0 sO;have q0:=fm.keep q0 sO;have F:=F.trans fm;have rowE:=An.keep (ok':=fun b=>B<b) As rowE (Sh.of_fr fm (fun b hb hlt=>⟨hb.1.1,by simp;exact hb.1.2.2⟩));have rowA:=An.keep (ok':=fun b=>B<b) Kt rowA (Sh.of_fr fm (fun b hb hlt=>⟨hb.1,by simp;exact hb.2.2⟩));have kqq336:=@Hz _ @nn633;exact qq336):p:=h
theorem qq38(h:p:=by
 have kqq259:=@Hz _ @nn522;exact qq259):p:=h
theorem qq39(h:p:=by
 refine(Cr P g c ts st t ht w1 (H.out.fr f0) HE.out).mono ?_;rintro e x3 ⟨rfl,f3⟩;go_wp2_with fail;have kqq304:=@Hz _ @nn566;exact qq304):p:=h
theorem qq40(h:p:=by
 have kqq298:=@Hz _ @nn557;exact qq298):p:=h
theorem qq41(h:p:=by
 cases hv;obtain⟨hcl,hcc⟩:=hcs i hlt;have hcell:∀ (j:Nat) (v:Value),(c6 i)[j]?=some v→wr.cell? ⟨g,og+i * 7+j,none⟩=some v:=fun j v hj=>(f.cell (p:=⟨g,og+i * 7+j,none⟩) hgs sO).trans (hcc j v hj)
 have hgw:g<wr.heap.size:=Nl' hgs (by have:=f.size;omega)
 generalize hci:c6 i=ci at *
 have hyw:=hyx.keep (w':=wr) (ok':=fun b=>b<lo) (Sh.of_fr f (fun b hb hlt=>⟨hb,by simp;omega⟩))
 cases hyx with
 | @mk k2 a2 nm2 n2 s2 ls2 args2 v52 v62 c52 c62 h52 e52 h62 e62 =>
 have hf5:∃ A m cc,v52 = .slice A m cc:=by obtain⟨_,_,hv⟩:=h52.form;exact⟨_,_,_,hv⟩
 have hf6:∃ A m cc,v62 = .slice A m cc:=by obtain⟨_,_,hv⟩:=h62.form;exact⟨_,_,_,hv⟩
 clear h52 e52 h62 e62;obtain⟨A52,m52,cc52,rfl⟩:=hf5;obtain⟨A62,m62,cc62,rfl⟩:=hf6;have x0:wr.cell? ⟨g,og+i * 7,none⟩=some (vI k2):=hcell 0 _ rfl;have x1:wr.cell? ⟨g,og+i * 7+1,none⟩=some (vI a2):=hcell 1 _ rfl;have x2:wr.cell? ⟨g,og+i * 7+2,none⟩=some (vS nm2):=hcell 2 _ rfl;have x3:wr.cell? ⟨g,og+i * 7+3,none⟩=some (vI n2):=hcell 3 _ rfl;have x4:wr.cell? ⟨g,og+i * 7+4,none⟩=some (vS s2):=hcell 4 _ rfl;have x5:wr.cell? ⟨g,og+i * 7+5,none⟩=some (.slice A52 m52 cc52):=hcell 5 _ rfl;have x6:wr.cell? ⟨g,og+i * 7+6,none⟩=some (.slice A62 m62 cc62):=hcell 6 _ rfl;have hsz2:=O3 HY.out;have cP:=fun W (hW:Fr [] wr W)=>Hz (IH.out k2 a2 nm2 n2 s2 ls2 args2 (.slice A52 m52 cc52) (.slice A62 m62 cc62) (d+1) (D+1) W τ (by have:=HN.out;omega) (by rw[HD.out];simp) oM (by have:=f.size;have:=hW.size;omega) (hyw.keep (Sh.of_fr hW (fun b hb hlt=>⟨hb,fun x=>by cases x⟩))) (hs.fr hW) hok.out)
 have hDQ:=HDQ.out;clear hcell hci hcc hcs hcl hyw hg;have q1:(0:Int)≤(i:Int):=by omega
 have q2:(i:Int)<(args.length:Int):=by omega
 go_wp2_with fail;have fb:Fr [] wr (wr.alloc (.cells #[vI k2,vI a2,vS nm2,vI n2,vS s2,.slice A52 m52 cc52,.slice A62 m62 cc62] 123)):=(Fr.refl [] wr).alloc _;refine(cP _ fb).out.mono ?_;rintro e w3 ⟨rfl,hs3,f3⟩;clear x0 x1 x2 x3 x4 x5 x6 cP hDQ;exact kqq41.out):p:=h
theorem qq42(h:p:=by
 have HT:=Hz ht;clear ht;have IH:=Hz ih;clear ih;have kqq340:=@Hz _ @nn644;exact qq340):p:=h
theorem qq43(h:p:=by
 have HP:=Hz ((hst2).frL (Ce x6 B (vI k2) (vI a2) (vS nm2) (vI n2) (vS s2) (.slice A52 n52 c52) (.slice A62 n62 c62)) (by simpa using nP) (by simpa using ng));have HX:Hid (Bw (st7 x6 B (vI k2) (vI a2) (vS nm2) (vI n2) (vS s2) (.slice A52 n52 c52) (.slice A62 n62 c62)) (fun b=>B≤b) (.mk k2 a2 nm2 n2 s2 ls2 args2) [vI k2,vI a2,vS nm2,vI n2,vS s2,.slice A52 n52 c52,.slice A62 n62 c62]):=Hz ((hx2).keep (Sh.of_fr (Ce x6 B (vI k2) (vI a2) (vS nm2) (vI n2) (vS s2) (.slice A52 n52 c52) (.slice A62 n62 c62)) (fun b hb hlt=>⟨oM,by simp;omega⟩)));unfold st7 at HG HF HP HX;obtain⟨⟨u0,u1,u2,u3,u4,u5,u6⟩,z0,z1,z2,z3,z4,z5,z6⟩:=Ao g0;go_wp2_with fail;generalize ((((((x6.setCell ⟨B,0,none⟩ (vI k2)).setCell ⟨B,1,none⟩ (vI a2)).setCell ⟨B,2,none⟩ (vS nm2)).setCell ⟨B,3,none⟩ (vI n2)).setCell ⟨B,4,none⟩ (vS s2)).setCell ⟨B,5,none⟩ (.slice A52 n52 c52)).setCell ⟨B,6,none⟩ (.slice A62 n62 c62)=Z at HG HF HP HX ⊢;obtain⟨⟨d0,d1,d2,d3,d4,d5,d6⟩,_⟩:=Ao HG.out;exact kqq43.out):p:=h
theorem qq44(h:p:=by
 have hszE:1+Bk args≤szE (.mk k a nm n s ls args arms):=by rw[szE];omega
 have kqq239:=@Hz _ @nn466;exact qq239):p:=h
theorem qq45(h:p:=by
 have kqq241:=@Hz _ @nn471;exact qq241):p:=h
theorem qq46(h:p:=by
 clear y0 y1 y2 y3 y4 y5 y6 y7 y8 y9 y10 y11 y12 y13 y14;obtain⟨m0,m1,m2,m3,m4,m5',m6',m7,m8,m9,m10,m11,m12,m13,m14⟩:=Lp (hb.at (Lm' ..));have C3:=Hz (IP.out k3 a3 nm3 n3 s3 ls3 args3 A53 A63 c53 c63 _ _ _ (by have:=Kc HX.out;have:=HN.out;omega) (HS2.out.get HX.out).1 hp2 hb (by have:=Bb HW2.out HL.out;omega));clear hp2;go_wp2_with fail;refine C3.out.mono ?_;rintro e w6 (⟨hok3,rfl,hb⟩| ⟨hok3,rfl,hf⟩)
 ·have HW3:=Hz (Ba HW2.out);clear C3 m0 m1 m2 m3 m4 m5' m6' m7 m8 m9 m10 m11 m12 m13 m14;obtain⟨m0,m1,m2,m3,m4,m5',m6',m7,m8,m9,m10,m11,m12,m13,m14⟩:=Lp (hb.at (Lm' ..));go_wp2_with fail;refine(hb.add1 [32,45,62,32] _ (by have:=Bb HW3.out HL.out;omega)).mono ?_;rintro e w7 ⟨rfl,hb⟩;have HW4:=Hz (Ba HW3.out);clear m0 m1 m2 m3 m4 m5' m6' m7 m8 m9 m10 m11 m12 m13 m14;obtain⟨m0,m1,m2,m3,m4,m5',m6',m7,m8,m9,m10,m11,m12,m13,m14⟩:=Lp (hb.at (Lm' ..));have C4:=Hz (IH.out k2 a2 nm2 n2 s2 ls2 args2 arms2 A52 A62 A72 c52 c62 c72 _ _ _ (by have:=Kc HX.out;have:=HN.out;omega) (HS2.out.get HX.out).2 hx2 hb (by have:=Bb HW4.out HL.out;omega));clear hx2;go_wp2_with fail;refine C4.out.mono ?_;rintro e w8 (⟨hok4,rfl,hb⟩| ⟨hok4,rfl,hf⟩)
  ·have HW5:=Hz (Ba HW4.out);have HO2:=Hz HO1.out;rw[hok3,hok4,Bool.true_and,Bool.true_and] at HO2;clear hok3 hok4 C4 HW1 HW2 HW3 HW4 HO1 HW HO HDD m0 m1 m2 m3 m4 m5' m6' m7 m8 m9 m10 m11 m12 m13 m14;go_wp2_with fail
   go_roundw
   case rel=>exact⟨i+1,_,sM,oM,hb.drop,HW5,HO2⟩
   case measure=>simp[intOf];omega
  ·go_wp2_with fail;exact⟨rfl,Sd.gave (by rw[← HO1.out,hok4];simp) hf⟩
 ·go_wp2_with fail;exact⟨rfl,Sd.gave (by rw[← HO1.out,hok3];simp) hf⟩):p:=h
theorem qq47(h:p:=by
 have q2:¬ (i:Int)<(args.length:Int):=by omega
 have hil:i=args.length:=by omega
 subst hil;rw[List.take_length] at KR KS;obtain⟨⟨l0,l1,l2,l3,l4,l5⟩,_⟩:=Bl K2.out;obtain⟨⟨u0,u1,u2,u3,u4,u5⟩,z0,z1,z2,z3,z4,z5⟩:=Bl K1.out;have hG:=Hz (Yf K1.out (vI k) (vI V) (vI n) (vS sx) (.slice A4 lsx.length c4) (.slice A9 args.length c9));have hF:=Hz (Km wr R (vI k) (vI V) (vI n) (vS sx) (.slice A4 lsx.length c4) (.slice A9 args.length c9));have nTR:¬ T=R:=by omega
 have nRT:¬ R=T:=by omega
 go_wp2_with fail
 generalize (((((wr.setCell ⟨R,0,none⟩ (vI k)).setCell ⟨R,1,none⟩ (vI V)).setCell ⟨R,2,none⟩ (vI n)).setCell ⟨R,3,none⟩ (vS sx)).setCell ⟨R,4,none⟩ (.slice A4 lsx.length c4)).setCell ⟨R,5,none⟩ (.slice A9 args.length c9)=Z at *
 obtain⟨⟨d0,d1,d2,d3,d4,d5'⟩,_⟩:=Bl hG.out;refine bodyPost_ret (v:=.agg #[vI k,vI V,vI n,vS sx,.slice A4 lsx.length c4,.slice A9 args.length c9]) ?_ rfl ?_
 ·simp[results,Tryz.f94,go_sem,d0,d1,d2,d3,d4,d5']
 ·have hs:=XE.out;rw[hs];have hxl:(Bt args m SP).1.length=args.length:=Do _ _ _;have kr:Gc Z (TOk w.heap.size A') (.slice A9 args.length c9) (Bt args m SP).1 cs:=KR.out.keep Br (fun b hb hlt=>⟨⟨by have:=hb.1;omega,hb.2⟩,hF.out.block b hlt (by have:=hb.1;simp;omega),Nl' hlt hF.out.size⟩);have kl:Gp Z (TOk w.heap.size A') (.slice A4 lsx.length c4) lsx cs4:=KL.out.keep Cg (fun b hb hlt=>⟨⟨by have:=hb.1.1;omega,hb.1.2⟩,hF.out.block b hlt (by have:=hb.1.1;simp;omega),Nl' hlt hF.out.size⟩);exact⟨_,_,_,_,_,_,_,_,_,_,_,_,rfl,Cs.of_rows kl kr,KS.out.fresh hF.out sO (fun a e=>by have:=KA.out a e;simp;omega) H.out.le (fun x hx=>by simp at hx;omega)⟩):p:=h
theorem qq48(h:p:=by
 have kqq328:=@Hz _ @nn616;exact qq328):p:=h
theorem qq49(h:p:=by
 refine(Ei _ _).mono ?_;rintro e x1 ⟨rfl,rfl⟩;go_wp2_with fail;refine(cr _).out.mono ?_;rintro e x1 ⟨rfl,f1⟩;go_wp2_with fail;refine(cd _ ((hE.fr f0).fr f1).env).out.mono ?_;rintro e x2 ⟨rfl,f2⟩;rw[hc2];have en:Dy (ByteArray.mk X.toArray).data.toList=Dy X:=rfl;rw[en];have g:=f2.keep (f1.keep h0 (fun h=>by cases h)) (fun h=>by cases h);obtain⟨c0,c1,c2,c3,z0,z1,z2,z3⟩:=Ar g;have ff:=(f0.trans f1).trans f2;have gz:=L9 g (vI 4) (vI 0) (.string ⟨([]:LB).toArray⟩) (vI (Dy X));have fz:=ff.store4 hB (vI 4) (vI 0) (.string ⟨([]:LB).toArray⟩) (vI (Dy X));clear h0 g;go_wp2_with fail;generalize (((x2.setCell ⟨B,0,none⟩ (vI 4)).setCell ⟨B,1,none⟩ (vI 0)).setCell ⟨B,2,none⟩ (.string ⟨([]:LB).toArray⟩)).setCell ⟨B,3,none⟩ (vI (Dy X))=Z at gz fz ⊢;obtain⟨d0,d1,d2,d3,_⟩:=Ar gz;exact kqq49.out):p:=h
theorem qq50(h:p:=by
 have cR2:=cR _ _ hb0;rw[hq] at cR2;go_enter func89,ntmps89;go_wp2_with fail;refine cR2.out.mono ?_;rintro e w7 (⟨hok,rfl,hb⟩| ⟨hok,rfl,hf⟩)
 ·exact qq207
 ·exact qq180):p:=h
theorem qq51(h:p:=by
 refine(Ei _ _).mono ?_;rintro e x1 ⟨rfl,rfl⟩;go_wp2_with fail;refine(cs _).out.mono ?_;rintro e x1 ⟨rfl,f1'⟩;have f1:=Fr.of_below f1';clear f1';have kqq298:=@Hz _ @nn556;exact qq298):p:=h
theorem qq52(h:p:=by
 refine(Cr P g c ts st t ht w1 (H.out.fr f0) HE.out).mono ?_;rintro e x3 ⟨rfl,f3⟩;have hTB:=Aa (f3.keep g0 nE);have h3:=H.out.fr (f0.trans f3);have hP3:=Aa h3.blk;have kqq304:=@Hz _ @nn565;exact qq304):p:=h
theorem qq53(h:p:=by
 clear c0 j0 j1 j2 j3 j4 j5 j6 j7;refine(cT x5 T0.st.1).out.mono ?_;rintro e x6 ⟨k1,a1,v1,n1,s1,B51,n51,e51,B61,n61,e61,B71,n71,e71,A1,c1,rfl,hX1,hst⟩;have T1:=T0.step hP hst;have hX1':Au x6 (TOk (w.heap.size+3) A1) X [vI k1,vI a1,vI v1,vI n1,.string ⟨s1⟩,.slice B51 n51 e51,.slice B61 n61 e61,.slice B71 n71 e71]:=hX1.keep (G5 T0.sz (Fr.refl [] _));have fD:=(Fr.refl [] x6).alloc (.cells #[vI k1,vI a1,vI v1,vI n1,.string ⟨s1⟩,.slice B51 n51 e51,.slice B61 n61 e61,.slice B71 n71 e71] 34);have pD:=Ag x6 (.cells #[vI k1,vI a1,vI v1,vI n1,.string ⟨s1⟩,.slice B51 n51 e51,.slice B61 n61 e61,.slice B71 n71 e71] 34);have T1':=T1.fr0 fD;have hX1'':=hX1'.keep (Oz fD);have hDs:=T1.sz;have hAl:=T1.st.1.own_lt;obtain⟨⟨i0,i1,i2,i3,i4,i5,i6,i7⟩,_⟩:=Ac T1'.e;clear T0 T1 hst cT hX1 hX1' m0 m1 m2 m3 y0 y1 y2 y3;go_wp2_with fail
 generalize hD:x6.heap.size=D at *
 generalize x6.alloc (.cells #[vI k1,vI a1,vI v1,vI n1,.string ⟨s1⟩,.slice B51 n51 e51,.slice B61 n61 e61,.slice B71 n71 e71] 34)=x7 at *
 refine(cB x7 A1 c1 T1'.st.1).out.mono ?_;rintro e x8 ⟨A2,c2,rfl,hst2⟩
 have hnD:D ∉ scL P A1:=fun hx=>by
  rcases Ay.1 hx with e|⟨a,e,e2⟩
  ·omega
  ·have:=hAl a e;omega
 have pD2:=hst2.2.1.keep pD hnD;have T2:=T1'.step hP hst2;have hX2:=hX1''.keep (Iu T1'.st.1 oM (Fr.refl [] _) hst2);have hDlt:=Aa pD;have hAD:∀ a,A2=some a→a.block≠D:=hst2.apart (fun a e=>by have:=hAl a e;omega) hDlt
 exact kqq53.out):p:=h
theorem qq54(h:p:=by
 intro w' hSw;go_simp
 (try with_reducible rfl)):p:=h
theorem qq55(h:p:=by
 have ha2:(ha == -2)=false:=bN.2 oM
 cases hx with
 | mk d5 d6 dp de h5 e5 h6 e6 h7 e7 e8 =>
 have H6:=Hz h6;have H7:=Hz h7;have E6:Hid (∀ (i:Nat) (x:At),args[i]?=some x→Au w0 ok x (d6 i)):=Hz e6;have E7:Hid (∀ (i:Nat) (p:Bp) (x:At),cases[i]?=some (p,x)→Cs w0 ok p (dp i)):=Hz e7;have E8:Hid (∀ (i:Nat) (p:Bp) (x:At),cases[i]?=some (p,x)→Au w0 ok x (de i)):=Hz e8;have IH:=Hz ih;have HNN:=Hz hn;have HP:=Hz hp;have hd9:(d:Int)≤600:=by have:=hp.2;omega
 have cP:=fun W (hW:Fh w0 Q E MT MP C A c W)=>Hz (Xy hW d hp)
 have cM:=fun W=>Hz (Ry bv bn bs ha v n s A5 ls.length c5 args.length hv hnn hs ha' W)
 have cO:=fun W (hW:Fr [] w0 W)=>Hz (Xx hW ls hon A5 c5 d5 h5 e5 hll)
 have hlt:=h.lt;have hol:=h.own_lt;have HOL:Hid (∀ a,A=some a→a.block<w.heap.size):=Hz hol;obtain⟨p0,p1,p2,p3,p4,y0,y2⟩:=h.cells;obtain⟨g0,g1,g2,f0,z0⟩:=Gy w (.cells #[.pointer (some ⟨Q,0,none⟩)] 64) (.cells #[vI k,vI a,vI v,vI n,vS s,.slice A5 ls.length c5,.slice A6 args.length c6,.slice A7 cases.length c7] 34) (.cells #[vI d] 3);unfold Lw at g0 g1 g2 f0 z0;have hX:=h.fr0 f0;have HLK:Hid (∀ (x:World) (r:Nat),x.heap[r]?=some (.map (shE 19) 19)→(Instr.lookup Ln (.map (some r)) (vI k) true).run prog x = .ok (.tuple #[.agg #[.bool bv,.bool bn,.bool bs,vI ha],.bool true]) x):=Hz hlk;have hc0:¬ (0:Int)<(cases.length:Int):=by omega
 clear hcs;exact kqq55.out):p:=h
theorem qq56(h:p:=by
 have kqq188:=@Hz _ @nn390;exact qq188):p:=h
theorem qq57(h:p:=by
 have kqq203:=@Hz _ @nn404;exact qq203):p:=h
theorem qq58(h:p:=by
 rintro e y3 ⟨rfl,h3,f3⟩;have g0:=f3.keep g0 (by simpa using nB);have F3:Fr [P] w y3:=((f0.trans f2).mono (fun x hx=>by cases hx)).trans f3;clear fa ci;have HG:=Hz (Aq g0 (vI 0) (vI 0) (vE) (vI 0) (vE) (vZ) (vZ) (vZ));have HF:=Hz ((F3).step (Aj y3 B (vI 0) (vI 0) (vE) (vI 0) (vE) (vZ) (vZ) (vZ)) (fun x hx => .inr (by simp at hx;omega)));have HP:=Hz ((h3).frL (Aj y3 B (vI 0) (vI 0) (vE) (vI 0) (vE) (vZ) (vZ) (vZ)) (by simpa using nP) (by simpa using ng));have HX:Hid (Ak (st8 y3 B (vI 0) (vI 0) (vE) (vI 0) (vE) (vZ) (vZ) (vZ)) (fun b=>B≤b) (.mk 0 0 [] 0 [] [] [] []) [vI 0,vI 0,vE,vI 0,vE,vZ,vZ,vZ]):=Hz (((Ak.leaf y3 (fun b=>B<b) 0 0 [] 0 [])).keep (Sh.of_fr (Aj y3 B (vI 0) (vI 0) (vE) (vI 0) (vE) (vZ) (vZ) (vZ)) (fun b hb hlt=>⟨oM,by simp;omega⟩)));have kqq120:=@Hz _ @nn315;exact qq120):p:=h
theorem qq59(h:p:=by
 refine wpAny_ready (rs:=[3]) kR sM ?_;refine(AllReady.cons rfl (fun K hK=>?_) AllReady.nil);go_simp;refine(cR _).out.mono ?_;rintro e w3 ⟨rfl,f3⟩;go_simp;refine hK _ _ ?_;clear hK K;refine wpAny_ready (rs:=[4]) kR sM ?_;refine(AllReady.cons rfl (fun K hK=>?_) AllReady.nil);go_simp;refine(must_no _).mono ?_;rintro e w4 ⟨rfl,f4⟩;go_simp;exact⟨rfl,Sd.gave rfl (hb0.frame.trans ((((show Fr [] _ _ by(repeat first|exact Fr.refl _ _|refine Fr.alloc ?_ _|refine Fr.drew ?_|refine Fr.setCell ?_ (.inr sM) _)).trans f2).trans f3).trans f4))⟩):p:=h
theorem qq60(h:p:=by
 have kqq246:=@Hz _ @nn485;exact qq246):p:=h
theorem qq61(h:p:=by
 have t9:(k==9)=false:=by simp;omega
 clear hk;go_enter func94,ntmps94;go_wp2_with fail;obtain⟨g0,g1,g2,f0,z0⟩:=Gy w (.cells #[vI k,vI a,vS nm,vI n,vS s,.slice A5 ls.length c5,.slice A6 args.length c6] 123) Ep (.cells #[vI k,vI 0,vI n,vS nm,vZ,vZ] 76);unfold Lw at g0 g1 g2 f0 z0
 generalize ((w.alloc (.cells #[vI k,vI a,vS nm,vI n,vS s,.slice A5 ls.length c5,.slice A6 args.length c6] 123)).alloc Ep).alloc (.cells #[vI k,vI 0,vI n,vS nm,vZ,vZ] 76)=x5 at *
 have hX:(tmP (.mk k a nm n s ls args) m S)=(.mk k 0 n nm [] (Bt args m S).1,(Bt args m S).2):=by
  rw[Hl];have hk:=HK.out;unfold preP;simp only[if_neg (show ¬ k=2 by omega),if_neg (show ¬ k=9 by omega),if_pos (show k=7∨k=8 by omega)]
 have hpre:Mc w0 P A w S k a nm n s ls args m x5:=⟨0,nm,[],none,0,fun _=>[],S,A,c,hX,g1,g2,An.nil_,(Stp.refl H.out).fr0 f0,HB.out.mono (by simp only[szP];omega),HM.out,fun a e => .inl (H.out.own_lt a e),oM⟩
 exact qq309):p:=h
theorem qq62(h:p:=by
 simp only[Option.map_map];exact map_eq (fun z=>by simp) _):p:=h
theorem qq63(h:p:=by
 have kqq333:=@Hz _ @nn624;exact qq333):p:=h
theorem qq64(h:p:=by
 have f4:=f.trans f3;have hTb3:=Aa qb
 have M15:w3.cell? ⟨wr.heap.size,0,none⟩=some (vI k3)∧w3.cell? ⟨wr.heap.size,1,none⟩=some (vI a3)∧w3.cell? ⟨wr.heap.size,2,none⟩=some (vS nm3)∧w3.cell? ⟨wr.heap.size,3,none⟩=some (vI n3)∧w3.cell? ⟨wr.heap.size,4,none⟩=some (vS s3)∧w3.cell? ⟨wr.heap.size,5,none⟩=some (.slice A53 m53 cc53)∧w3.cell? ⟨wr.heap.size,6,none⟩=some (.slice A63 m63 cc63)∧w3.cell? ⟨wr.heap.size,7,none⟩=some (vI k2)∧w3.cell? ⟨wr.heap.size,8,none⟩=some (vI a2)∧w3.cell? ⟨wr.heap.size,9,none⟩=some (vS nm2)∧w3.cell? ⟨wr.heap.size,10,none⟩=some (vI n2)∧w3.cell? ⟨wr.heap.size,11,none⟩=some (vS s2)∧w3.cell? ⟨wr.heap.size,12,none⟩=some (.slice A52 m52 cc52)∧w3.cell? ⟨wr.heap.size,13,none⟩=some (.slice A62 m62 cc62)∧w3.cell? ⟨wr.heap.size,14,none⟩=some (.slice A72 m72 cc72):=⟨Ab qb 0,Ab qb 1,Ab qb 2,Ab qb 3,Ab qb 4,Ab qb 5,Ab qb 6,Ab qb 7,Ab qb 8,Ab qb 9,Ab qb 10,Ab qb 11,Ab qb 12,Ab qb 13,Ab qb 14⟩
 obtain⟨m0,m1,m2,m3,m4,m5,m6,m7,m8,m9,m10,m11,m12,m13,m14⟩:=M15;exact kqq64.out):p:=h
theorem qq65(h:p:=by
 have kqq353:=@Hz _ @nn686;exact qq353):p:=h
theorem qq66(h:p:=by
 go_enter func81,ntmps81;go_wp2_with fail;go_ret;exact⟨by simp[Ah, *],by(repeat first|exact Fr.refl _ _|refine Fr.alloc ?_ _|refine Fr.drew ?_|refine Fr.setCell ?_ (.inr sM) _)⟩):p:=h
theorem qq67(h:p:=by
 have ends:∀ (jump:Option Code) (V:World),KeepsOthers (W.putObj (w.heap.size+1) (.loop { rec .ready none with state:=.busy })) V →
   (Instr.endRound (w.heap.size+1) jump).run P V = .ok (.bool jump.isNone) (V.putObj (w.heap.size+1) (.loop (rec (if jump.isNone then .ready else .done) jump)))∧
   V.heap[w.heap.size+1]?=some (.loop { rec .ready none with state:=.busy })∧
   (V.putObj (w.heap.size+1) (.loop (rec (if jump.isNone then .ready else .done) jump))).heap[w.heap.size+1]?=some (.loop (rec (if jump.isNone then .ready else .done) jump))∧
   (V.putObj (w.heap.size+1) (.loop (rec (if jump.isNone then .ready else .done) jump))).heap[w.heap.size]?=some (.deferred (some [])):=fun jump V hk3=>by
  have hl3:=hk3.same _ _ busy rfl;have:=run_endRound (P:=P) jump hl3;rw[hrec] at this ⊢;exact⟨this,by rw[hrec] at hl3;exact hl3,World.putObj_heap_same (Array.getElem?_eq_some_iff.1 hl3).1,(World.putObj_heap_other oM).trans (hk3.same _ _ defd rfl)⟩
 rintro e a3 V hp;exact kqq67.out):p:=h
theorem qq68(h:p:=by
 have H:=Hz h;have hP:=Aa h.blk;have hgl:=h.lt;have hin:=h.inb;have HN:=Hz hm;have HE:=Hz hE;have IH:=Hz ih;clear h hm hE ih;exact kqq68.out):p:=h
theorem qq69(h:p:=by
 intro k a nm n s ls args arms v5 v6 v7 d D w σ hN hD hb hlo hx hs hok
 cases hx with
 | mk c5 c6 cp ce h5 e5 h6 e6 h7 e7 e8 =>
 have hsz:szE (.mk k a nm n s ls args arms)=1+(Bk args+B1 arms):=by simp[szE]
 rw[hsz] at hN hb;rw[M1,goL]
 have hform:∃ A6 m6 cc6,v6 = .slice A6 m6 cc6∧m6=args.length:=by
  obtain⟨_,_,hv⟩:=h6.form;exact⟨_,_,_,hv,rfl⟩
 obtain⟨A6,m6,cc6,rfl,rfl⟩:=hform
 have hform:∃ A7 m7 cc7,v7 = .slice A7 m7 cc7∧m7=arms.length:=by
  obtain⟨_,_,hv⟩:=h7.form;exact⟨_,_,_,hv,rfl⟩
 obtain⟨A7,m7,cc7,rfl,rfl⟩:=hform;have IH:=Hz ih;have H6:=Hz h6;have H7:=Hz h7;have E6:Hid (∀ (i:Nat) (x:Ad),args[i]?=some x→Ak w (fun b=>b<lo) x (c6 i)):=Hz e6;have E7:Hid (∀ (i:Nat) (p:Al) (x:Ad),arms[i]?=some (p,x)→Bw w (fun b=>b<lo) p (cp i)):=Hz e7;have E8:Hid (∀ (i:Nat) (p:Al) (x:Ad),arms[i]?=some (p,x)→Ak w (fun b=>b<lo) x (ce i)):=Hz e8;have HD:=Hz hD;have HS:=Hz hs;exact kqq69.out):p:=h
theorem qq70(h:p:=by
 have kqq203:=@Hz _ @nn403;exact qq203):p:=h
theorem qq71(h:p:=by
 clear M3 M4 M5 M6 u0 u1 u2 u3 u4 u5 u6 u7 z0 z1 z2 z3 z4 z5 z6 z7 l0 l1 l2 l3 l4 l5 l6 l7 m0 m1 m2 m3;have f6:Fr [P] x5 x6:=((Fr.refl [P] x5).drew).trans f6;have f7:Fr [] (x6.alloc (.cells #[vI k1,vI a1,vS nm1,vI n1,vS s1,.slice A51 n51 c51,.slice A61 n61 c61,.slice A71 n71 c71,vI k2,vI a2,vS nm2,vI n2,vS s2,.slice A52 n52 c52,.slice A62 n62 c62,.slice A72 n72 c72] 27)) x7:=f7;have hs6:=f6.size;have hx1:=hx1.keep (ok':=fun b=>B<b∧¬ b=P) (Sh.of_fr f6 (fun b hb hlt=>⟨⟨hb.1,hb.2.2.2.1⟩,by simp;exact hb.2.2.2.1⟩));have hx2:=hx2.keep (ok':=fun b=>B<b∧¬ b=P) (Sh.of_fr (Fr.refl [] x6) (fun b hb hlt=>⟨by have:x5.heap.size≤b:=hb;exact⟨oM,oM⟩,fun x=>by cases x⟩));have row6:=An.lit2 As (T:=27) (size:=8) (ok:=fun b=>B<b∧¬ b=P) hx1 hx2 rfl rfl (by exact⟨oM,oM⟩);have row7:=An.keep (ok':=fun b=>B<b) As row6 (Sh.of_fr f7 (fun b hb hlt=>⟨hb.1,fun x=>by cases x⟩));exact kqq71.out):p:=h
theorem qq72(h:p:=by
 by_cases t4:na=m
 ·subst t4;by_cases t5:0<ma
  ·have e5:decide (0<(ma:Int))=true:=by simp;omega
   exact qq174
  ·have e5:decide (0<(ma:Int))=false:=by simp;omega
   exact qq174
 ·have e4:((na:Int)==(m:Int))=false:=by rw[bN];omega
  exact qq66):p:=h
theorem qq73(h:p:=by
 go_enter func29,ntmps29;go_wp2_with fail;have f0:Fr [] w (w.alloc (.cells #[vI 0,vI 0,vE,vI 0] 52)):=(Fr.refl [] w).alloc _;have h0:(w.alloc (.cells #[vI 0,vI 0,vE,vI 0] 52)).heap[w.heap.size]?=some (.cells #[vI 0,vI 0,vE,vI 0] 52 (0,0)):=Array.getElem?_push_size
 generalize (w.alloc (.cells #[vI 0,vI 0,vE,vI 0] 52))=w1 at *
 have hBw:w.heap.size≤w.heap.size:=Nr' _;generalize hB:w.heap.size=B at h0 hBw ⊢;refine(Cq _ _).mono ?_;rintro e x1 ⟨rfl,rfl⟩;go_wp2_with fail;exact kqq73.out):p:=h
theorem qq74(h:p:=by
 refine wpIn_rangeFunc ?_;intro fn hfn;rw[hro]
 obtain⟨rec,hrec⟩:∃ rec:LoopState→Option Code→Loop,rec=fun st pe=>{ state:=st,pending:=pe,fn,tmps:=a.tmps,params:=ps,assign,body,defers:=w.heap.size }:=⟨_,rfl⟩
 obtain⟨W1,hW1⟩:∃ W1,(w.alloc (.deferred (some []))).alloc (.loop (rec .ready none))=W1:=⟨_,rfl⟩
 have hLoop:W1.heap[w.heap.size+1]?=some (.loop (rec .ready none)):=by
  have:=World.alloc_heap_new (w.alloc (.deferred (some []))) (.loop (rec .ready none));rw[World.size_alloc] at this;rw[← hW1];exact this
 have hDef:W1.heap[w.heap.size]?=some (.deferred (some [])):=by
  rw[← hW1];exact(Below.heap_alloc _ _ _ sM).trans (World.alloc_heap_new w _)
 have hI1:I [] W1:=by rw[← hW1];exact hI.alloc _ (hI.alloc _ h0)
 have hb1:Below w.heap.size w W1:=by rw[← hW1];exact((Below.refl _ w).alloc (Nr' _) _).alloc sM _
 exact kqq74.out):p:=h
theorem qq75(h:p:=by
 rintro e x7 ⟨rfl,h7,f7⟩;have g0:=f7.keep g0 (by simpa using nB);have q6:=f7.keep q6 sO;have F7:=(F6.mono (L':=[P]) (fun x hx=>by cases hx)).trans f7;obtain⟨⟨l0,l1,l2,l3,l4,l5,l6⟩,_⟩:=Ao q6;have HOK:=Hz hok;have HT2:=HT;clear hok;have hBT:=Aa g0;exact kqq75.out):p:=h
theorem qq76(h:p:=by
 have kqq370:=@Hz _ @nn741;exact qq370):p:=h
theorem qq77(h:p:=by
 clear HK0;have HK:=Hz hk;have t2:(k==2)=true:=by simp[hk]
 have t7:(k==7)=false:=by simp;omega
 have t8:(k==8)=false:=by simp;omega
 have t9:(k==9)=false:=by simp;omega
 clear hk;have hcap:=H.out.cap;have hml:=HM.out;have mm1:(0:Int)≤(m:Int):=by omega
 have mm2:(m:Int)≤(S.l.length:Int):=by omega
 have mm3:(S.l.length:Int)≤(c:Int):=by omega
 obtain⟨g0,g1,g2,f0,z0⟩:=Gy w (.cells #[vI k,vI a,vS nm,vI n,vS s,.slice A5 ls.length c5,.slice A6 args.length c6] 123) Ep (.cells #[vI k,vI 0,vI n,vS s,vZ,vZ] 76);unfold Lw at g0 g1 g2 f0 z0;have c0:=(f0.cell (p:=⟨P,0,none⟩) hP (fun x=>by cases x)).trans m0;have hsb:=HB.out;have cB:=fun W S0 A0 c0 (hW:Dg w0 P S0 A0 c0 W) (hs:SB S0 1)=>Hz (Ju hW nm (by have:=hs.2.2;omega) hs.1 (by have:=hs.2.1;omega))
 have hcm:=HQ.out.1;exact kqq77.out):p:=h
theorem qq78(h:p:=by
 go_wp2_with fail;obtain⟨p,hp⟩:=Bn h0.inb;refine(Cp [116,104,101,110] P g c ts st2 p hp wz h0 HE.out).mono ?_;rintro e y0 ⟨rfl,h0,fm⟩;have kqq225:=@Hz _ @nn417;exact qq225):p:=h
theorem qq79(h:p:=by
 have HG:=Hz (Aq g0 (vI 0) (vI 0) (vE) (vI 0) (vE) (vZ) (vZ) (vZ));have HF:=Hz (F.step (Aj y9 B (vI 0) (vI 0) (vE) (vI 0) (vE) (vZ) (vZ) (vZ)) (fun x hx => .inr (by simp at hx;omega)));unfold st8 at HG HF;have hBy:=Aa g0;obtain⟨⟨u0,u1,u2,u3,u4,u5,u6,u7⟩,z0,z1,z2,z3,z4,z5,z6,z7⟩:=Ac g0;go_wp2_with fail;generalize (((((((y9.setCell ⟨B,0,none⟩ (vI 0)).setCell ⟨B,1,none⟩ (vI 0)).setCell ⟨B,2,none⟩ (vE)).setCell ⟨B,3,none⟩ (vI 0)).setCell ⟨B,4,none⟩ (vE)).setCell ⟨B,5,none⟩ (vZ)).setCell ⟨B,6,none⟩ (vZ)).setCell ⟨B,7,none⟩ (vZ)=Z at HG HF ⊢;obtain⟨⟨d0,d1,d2,d3,d4,d5,d6,d7⟩,_⟩:=Ac HG.out;exact kqq79.out):p:=h
theorem qq80(h:p:=by
 intro a nm n s ls args arms A5 A6 A7 c5 c6 c7 rs l wr hN hs hx hR hb hl;obtain⟨⟨hs1,hs2,hs3,hs4⟩,hs5,hs6⟩:=hs;obtain⟨h,hh,hr⟩:=hR;simp[Cc] at hh;subst hh;exact kqq80.out):p:=h
theorem qq81(h:p:=by
 have hgw:g<w.heap.size:=by have:=HLE.out;omega
 have ngT:¬ g=w.heap.size+1+1:=by omega
 have nTg:¬ w.heap.size+1+1=g:=by omega
 have T0:=TSt.start H.out (.cells #[vI k,vI a,vS nm,vI n,vS s,.slice A5 ls.length c5,.slice (some ⟨g,o,none⟩) args.length c6,.slice A7 arms.length c7] 27) #[vI 0,vI a,vI 0,vI 0,vE,vZ,vZ,vZ];have kqq257:=@Hz _ @nn516;exact qq257):p:=h
theorem qq82(h:p:=by
 refine hK.out _ _ ?_ (fun hHeld=>?_)
 ·exact⟨⟨l0,l1,l2,l3,l4,l5,l6,l7⟩,x0,x1,x2,x3,x4,x5,x6,x7⟩
 clear hK K
 try simp only[Act.put,sX]
 refine tk1 3 (oi:={ dst:=some 54,op:=_,type:=_,pos:=_,after:=_,guard:=_ }) (v:=?_) rfl rF ?_ ?_
 rotate_left
 ·exact qq27
 try simp only[Act.put,sX]
 refine tk1 4 (oi:={ dst:=some 55,op:=_,type:=_,pos:=_,after:=_,guard:=_ }) (v:=?_) rfl rF ?_ ?_
 rotate_left
 ·exact qq27
 try simp only[Act.put,sX]
 refine tk1 5 (oi:={ dst:=some 56,op:=_,type:=_,pos:=_,after:=_,guard:=_ }) (v:=?_) rfl rF ?_ ?_
 rotate_left
 ·exact qq27
 try simp only[Act.put,sX]
 refine tk1 6 (oi:={ dst:=some 57,op:=_,type:=_,pos:=_,after:=_,guard:=_ }) (v:=?_) rfl rF ?_ ?_
 rotate_left
 ·exact qq27
 try simp only[Act.put,sX]
 refine tk1 7 (oi:={ dst:=some 58,op:=_,type:=_,pos:=_,after:=_,guard:=_ }) (v:=?_) rfl rF ?_ ?_
 rotate_left
 ·exact qq27
 try simp only[Act.put,sX]
 refine tk1 8 (oi:={ dst:=some 59,op:=_,type:=_,pos:=_,after:=_,guard:=_ }) (v:=?_) rfl rF ?_ ?_
 rotate_left
 ·exact qq27
 try simp only[Act.put,sX]
 refine tk1 9 (oi:={ dst:=some 60,op:=_,type:=_,pos:=_,after:=_,guard:=_ }) (v:=?_) rfl rF ?_ ?_
 rotate_left
 ·exact qq27
 exact kqq82.out):p:=h
theorem qq83(h:p:=by
 have t10:(k==10)=false:=bN.2 oM;have t9:(k==9)=false:=bN.2 oM;have t17:(k==17)=false:=bN.2 oM;have t16:(k==16)=false:=bN.2 oM;have HKK:=Hz hk;clear hk;have HBB:=Hz hb;clear hb;have HCC:=Hz hC;clear hC;clear h5 e5 h6 e6 h7 e7 e8 h ih hn hp hon hol hlk hv hnn hs ha';have kqq281:=@Hz _ @nn543;exact qq281):p:=h
theorem qq84(h:p:=by
 clear hK K;clear p0 p1 p2 a0 a1 a2 a3 hHeld hmin hJ1 hJ2 w1q w2q;have fd:Fr [] x1 ((x1.alloc (.cells #[vI n.k,vI n.at',.string ⟨n.text.toArray⟩,vI n.n] 52)).drew):=((Fr.refl [] x1).alloc _).drew;have q5:((x1.alloc (.cells #[vI n.k,vI n.at',.string ⟨n.text.toArray⟩,vI n.n] 52)).drew).heap[x1.heap.size]?=some (.cells #[vI n.k,vI n.at',.string ⟨n.text.toArray⟩,vI n.n] 52 (0,0)):=Ag x1 (.cells #[vI n.k,vI n.at',.string ⟨n.text.toArray⟩,vI n.n] 52);have hBx1:=Aa g0;have hTx1:=Aa q0;have g0:=fd.keep g0 nE;have q0:=fd.keep q0 nE;have h0:=h0.fr fd;have F:=F.trans0 fd
 generalize (x1.alloc (.cells #[vI n.k,vI n.at',.string ⟨n.text.toArray⟩,vI n.n] 52)).drew=x2 at *
 generalize x1.heap.size=TN at *
 clear fd;go_wp2_with fail;refine(Cr P g c ts st t HT.out x2 h0 HE.out).mono ?_;rintro e x3 ⟨rfl,f3⟩;have g0:=f3.keep g0 nE;have q0:=f3.keep q0 nE;have q5:=f3.keep q5 nE;have h0:=h0.fr f3;have F:=F.trans0 f3;have r0:=Od;have hTN:=Aa q5;obtain⟨y0,y1,y2,y3,_⟩:=Ar q5;clear f3;exact kqq84.out):p:=h
theorem qq85(h:p:=by
 refine Av rF _ _ 24 rF 27 i0 _ 8 128 underlying24 HI.out HZ0.out HZ1.out HZ2.out rfl dC (.slice (some ⟨g9,0,none⟩) 1 cp9) 1 (Co (fun i=>if i=([]:List Ad).length then [vI k1,vI a1,vS nm1,vI n1,vS s1,.slice A51 n51 c51,.slice A61 n61 c61,.slice A71 n71 c71] else []) 1) rF ROW9.own ⟨x8.heap.size,0,none⟩ 1 1 [vI k2,vI a2,vS nm2,vI n2,vS s2,.slice A52 n52 c52,.slice A62 n62 c62,.slice A72 n72 c72] rF rfl (World.news_of_block (Ag x8 _)) (by simp[Value.oneCell']) dC dC ?_;intro v9 w9 hown9 hgrow9 hfp9;obtain⟨g8,cp8,hv9⟩:∃ g cap,v9 = .slice (some ⟨g,0,none⟩) (2) cap:=Cd hown9
 have kqq244:=@Hz _ @nn477;exact qq244):p:=h
theorem qq86(h:p:=by
 have hDQ:=HDQ.out;clear hcell hci hce hcl hyw hpw hg;have q1:(0:Int)≤(i:Int):=by omega
 have q2:(i:Int)<(arms.length:Int):=by omega
 go_wp2_with fail;have fb:Fr [] wr (wr.alloc (.cells #[vI k3,vI a3,vS nm3,vI n3,vS s3,.slice A53 m53 cc53,.slice A63 m63 cc63,vI k2,vI a2,vS nm2,vI n2,vS s2,.slice A52 m52 cc52,.slice A62 m62 cc62,.slice A72 m72 cc72] 125)):=(Fr.refl [] wr).alloc _;have qb:=Ag wr (.cells #[vI k3,vI a3,vS nm3,vI n3,vS s3,.slice A53 m53 cc53,.slice A63 m63 cc63,vI k2,vI a2,vS nm2,vI n2,vS s2,.slice A52 m52 cc52,.slice A62 m62 cc62,.slice A72 m72 cc72] 125);have hTb:wr.heap.size<(wr.alloc (.cells #[vI k3,vI a3,vS nm3,vI n3,vS s3,.slice A53 m53 cc53,.slice A63 m63 cc63,vI k2,vI a2,vS nm2,vI n2,vS s2,.slice A52 m52 cc52,.slice A62 m62 cc62,.slice A72 m72 cc72] 125)).heap.size:=Aa qb;refine(cP _ fb).out.mono ?_;rintro e w3 ⟨rfl,hs3,f3⟩;clear cP x0 x1 x2 x3 x4 x5 x6 x7 x8 x9 x10 x11 x12 x13 x14;have qb:=f3.keep qb (by simp;have:=f.size;omega);exact kqq86.out):p:=h
theorem qq87(h:p:=by
 have kqq301:=@Hz _ @nn563;exact qq301):p:=h
theorem qq88(h:p:=by
 rw[hv];go_enter func191,ntmps191;go_wp2_with fail;go_ret2;exact qq288):p:=h
theorem qq89(h:p:=by
 generalize x3.alloc (.cells #[vI t.k,vI t.at',.string ⟨t.text.toArray⟩,vI t.n] 52)=x4 at *
 generalize x3.heap.size=T3 at *
 refine(IHP.out P g c st x4 h4 (by have:=HN.out;omega)).mono ?_;rintro e x6 ⟨k2,a2,nm2,n2,s2,ls2,args2,A52,n52,c52,A62,n62,c62,st2,rfl,hx2,hr2,hst2,f6⟩;have g0:=f6.keep g0 (by simpa using nB);have hx2:=hx2.keep (ok':=fun b=>B<b) (Sh.of_fr (Fr.refl [] x6) (fun b hb hlt=>⟨by have:x4.heap.size≤b:=hb;omega,fun x=>by cases x⟩));have hBT:=Aa g0;have HG:=Hz (Dm g0 (vI k2) (vI a2) (vS nm2) (vI n2) (vS s2) (.slice A52 n52 c52) (.slice A62 n62 c62));have HF:=Hz (((f4.mono (L':=[P]) (fun x hx=>by cases hx)).trans f6).step (Ce x6 B (vI k2) (vI a2) (vS nm2) (vI n2) (vS s2) (.slice A52 n52 c52) (.slice A62 n62 c62)) (fun x hx => .inr (by simp at hx;omega)));exact kqq89.out):p:=h
theorem qq90(h:p:=by
 rw[ht];have hsm:=Dl s[0];have hgr:=Dk s[0];have hdg:=Fw s[0];rw[h1] at hsm;rw[h2] at hgr;rw[h4] at hdg;have e34:¬ ((s[0].toNat:Nat):Int)=34:=by intro h;apply h5;apply UInt8.toNat_inj.1;have h9:(34:UInt8).toNat=34:=rfl;omega
 have b34:(((s[0].toNat:Nat):Int)==34)=false:=by rw[bN];exact e34
 have kqq256:=@Hz _ @nn510;exact qq256):p:=h
theorem qq91(h:p:=by
 have g0:=f6.keep g0 (by simpa using nB);have kqq323:=@Hz _ @nn601;exact qq323):p:=h
theorem qq92(h:p:=by
 rintro e x5 ⟨rfl,h5,f5⟩;have kqq258:=@Hz _ @nn518;exact qq258):p:=h
theorem qq93(h:p:=by
 cases b with
 | true =>
  rw[if_pos rfl,if_pos rfl] at h;refine .may_yes hv hb (.thn ?_)
  cases h with
  | look h1 hk =>
   have e:st3.ok=true:=(Jg hb).1;have hk:Run ts (if st3.ok=true then _ else _) _ _ _:=hk;rw[e,if_pos rfl] at hk;rw[e]
   exact hk
 | false =>
  rw[if_neg dC,if_neg dC] at h;exact .may_no hv hb (.els h)):p:=h
theorem qq94(h:p:=by
 obtain⟨⟨d0,d1,d2,d3,d4,d5,d6,d7⟩,_⟩:=Ac (Ae HG.out (.cells #[vI k1,vI a1,vS nm1,vI n1,vS s1,.slice A51 n51 c51,.slice A61 n61 c61,.slice A71 n71 c71,vI k2,vI a2,vS nm2,vI n2,vS s2,.slice A52 n52 c52,.slice A62 n62 c62,.slice A72 n72 c72] 27));have hBZ:B≤Z.heap.size:=by have:=Aa HG.out;omega
 have row:=An.lit2 As (T:=27) (size:=8) HX1.out HX2.out rfl rfl (ok:=fun b=>B≤b) hBZ;rw[HS.out] at row;exact kqq94.out):p:=h
theorem qq95(h:p:=by
 have kqq355:=@Hz _ @nn693;exact qq355):p:=h
theorem qq96(h:p:=by
 refine Av rF _ _ 23 rF 9 i0s _ 1 16 underlying23 HIs.out HZ0s.out HZ1s.out HZ2s.out rfl dC (v5) (ls.length) (Co c5 (ls.length)) rF ROW9.own ⟨x8.heap.size,0,none⟩ 1 1 [.string ⟨(Be u st0).toArray⟩] rF rfl (World.news_of_block (Ag x8 _)) (by simp[Value.oneCell']) (by simp only[maxLen];have:=HLEN.out;have:=HAL.out;omega) (by have:=HLEN.out;have:=HAL.out;omega) ?_;intro v9 w9 hown9 hgrow9 hfp9;obtain⟨g9,cp9,hv9⟩:∃ g cap,v9 = .slice (some ⟨g,0,none⟩) (ls.length+1) cap:=Cd hown9
 subst hv9;have Q9:=(hgrow9.block T (Aa (Ae Q8 (.cells #[.string ⟨(Be u st0).toArray⟩] 9))) (fun e=>(ROWH.out.blk T e.symm).1.2.1 rfl)).trans (Ae Q8 (.cells #[.string ⟨(Be u st0).toArray⟩] 9));have hT9:=Aa Q9;exact kqq96.out):p:=h
theorem qq97(h:p:=by
 rw[(show(⟨nm.toArray⟩:ByteArray).data.toList=nm from rfl)] at cN;go_wp2_with fail;refine(cN _ (HV.out.fr hb.frame)).out.mono ?_;rintro e w5 ⟨rfl,hf⟩;replace hb:=hb.fr hf;clear hf;clear l0 l1 l2 l3 l4 l5 l6 l7;obtain⟨⟨l0,l1,l2,l3,l4,l5,l6,l7⟩,_⟩:=Ac (hb.at (Lm' ..));exact kqq97.out):p:=h
theorem qq98(h:p:=by
 have kqq326:=@Hz _ @nn610;exact qq326):p:=h
theorem qq99(h:p:=by
 go_simp;refine(Mi _ u _ _ _ _).mono ?_;rintro e y5 ⟨rfl,f5⟩;have R4:=f5.keep (Ae Q4 (.cells #[vI k0,vI a0,vS nm0,vI n0,vS s0,.slice A50 n50 c50,.slice A60 n60 c60,.slice A70 n70 c70,vI k2,vI a2,vS nm2,vI n2,vS s2,.slice A52 n52 c52,.slice A62 n62 c62,.slice A72 n72 c72] 27)) nE;have R5:=f5.keep (Ae Q5 (.cells #[vI k0,vI a0,vS nm0,vI n0,vS s0,.slice A50 n50 c50,.slice A60 n60 c60,.slice A70 n70 c70,vI k2,vI a2,vS nm2,vI n2,vS s2,.slice A52 n52 c52,.slice A62 n62 c62,.slice A72 n72 c72] 27)) nE;have hT45:=Aa R4;have hT55:=Aa R5;have M6:=Ar R5;obtain⟨⟨u0,u1,u2,u3,u4,u5,u6,u7⟩,z0,z1,z2,z3,z4,z5,z6,z7⟩:=Ac R4;go_simp;exact kqq99.out):p:=h
theorem qq100(h:p:=by
 obtain⟨⟨l0,l1,l2,l3,l4,l5,l6,l7⟩,f0,f1,f2,f3,f4,f5,f6,f7⟩:=Ac T3.t;obtain⟨⟨u0,u1,u2,u3,u4,u5,u6,u7⟩,z0,z1,z2,z3,z4,z5,z6,z7⟩:=Ac T3.r;have kqq251:=@Hz _ @nn497;exact qq251):p:=h
theorem qq101(h:p:=by
 have kqq311:=@Hz _ @nn568;exact qq311):p:=h
theorem qq102(h:p:=by
 refine Av rF _ _ 74 rF 76 i0 _ 6 88 underlying74 HI.out HZ0.out HZ1.out HZ2.out rfl dC (.slice A9 i c9) i (Co cs i) rF (Gh Br HRW.out HLEN.out _) ⟨x6.heap.size,0,none⟩ 1 1 [vI k1,vI v1,vI n1,.string ⟨s1⟩,.slice B4 n4 d4,.slice B5 n5 d5'] rF rfl (World.news_of_block (Ag x6 _)) (by simp[Value.oneCell']) (by simp only[maxLen];omega) oM ?_;intro v9 w9 hown9 hgrow9 hfp9;obtain⟨g9,cp9,hv9⟩:=Cd hown9;subst hv9;have Q9:=(hgrow9.block C (Aa (Ae Q6 _)) hCB).trans (Ae Q6 _);have M9:=(Ao Q9).1;have G9:=(hgrow9.block T (Aa (Ae G6 _)) hTB).trans (Ae G6 _);obtain⟨⟨u0,u1,u2,u3,u4,u5⟩,z0,z1,z2,z3,z4,z5⟩:=Bl G9;exact kqq102.out):p:=h
theorem qq103(h:p:=by
 have hnn:∀ b,w.heap.size≤b→b ∉ scL P A:=fun b hb hx=>by
  rcases Ay.1 hx with e|⟨a,e,e2⟩
  ·omega
  ·have:=H.out.own_lt a e;omega
 have hS6:=H.out.fr0 (f0.trans f6);have Q0:=f6.keep g0 nE;have Q1:=f6.keep g1 nE;have Q2:=f6.keep g2 nE;have hz6:=f6.size;have F6:=Hz (f0.trans f6);clear g0 g1 g2 f6 f0
 obtain⟨SF,hSF⟩:∃ SF,SF=(if RR=true then S.fail 24 a else S):=⟨_,rfl⟩
 have HSF:=Hz hSF;have HGR:Hid (Gr S SF 0):=Hz (by rw[hSF];split;exact Gr.fail _ _ _;exact Gr.refl _);have HSN:Hid (SF.l=S.l∧SF.n=S.n):=Hz (by rw[hSF];split;exact Lr _ _ _;exact⟨rfl,rfl⟩);clear hSF;obtain rfl:=HRX.out;clear HRX;exact kqq103.out):p:=h
theorem qq104(h:p:=by
 go_wp2_with fail;go_ret;exact qq288):p:=h
theorem qq105(h:p:=by
 have kqq251:=@Hz _ @nn496;exact qq251):p:=h
theorem qq106(h:p:=by
 go_simp;refine(cF _).out.mono ?_;rintro e w2 ⟨rfl,f2⟩;go_simp;exact⟨rfl,Sd.gave rfl (hb0.frame.trans ((show Fr [] _ _ by(repeat first|exact Fr.refl _ _|refine Fr.alloc ?_ _|refine Fr.drew ?_|refine Fr.setCell ?_ (.inr sM) _)).trans f2))⟩):p:=h
theorem qq107(h:p:=by
 have busy:(W.putObj (w.heap.size+1) (.loop { rec .ready none with state:=.busy })).heap[w.heap.size+1]?=some (.loop { rec .ready none with state:=.busy }):=World.putObj_heap_same (Array.getElem?_eq_some_iff.1 hl).1;have defd:(W.putObj (w.heap.size+1) (.loop { rec .ready none with state:=.busy })).heap[w.heap.size]?=some (.deferred (some [])):=(World.putObj_heap_other oM).trans hk;have bel:∀ (V:World) (o:Obj),w.heap.size+1<V.heap.size→Below w.heap.size V (V.putObj (w.heap.size+1) o):=fun V o hv=>(Below.refl _ V).grown (grownBy_putObj' V (w.heap.size+1) o) oM (fun k e=>by cases e;omega)
 exact kqq107.out):p:=h
theorem qq108(h:p:=by
 generalize x3.alloc (.cells #[vI t.k,vI t.at',.string ⟨t.text.toArray⟩,vI t.n] 52)=x4 at *
 generalize x3.heap.size=T3 at *
 refine(cx x4 h4).out.mono ?_;have kqq259:=@Hz _ @nn520;exact qq259):p:=h
theorem qq109(h:p:=by
 rintro e V ⟨⟨v,rfl⟩,(⟨xs,hS,hi,hl,hk⟩| ⟨pre,hSp,hi,hl,hk⟩)⟩
 ·exact⟨none,_,by have:=run_endLoop (P:=P) hl (by rw[hrec];simp);rw[hrec] at this;exact this,hdone _ xs _ (Nr' _) hS (hI.putObj _ hi oM hl rfl) ((World.putObj_heap_other oM).trans hk)⟩
 ·exact⟨some .ret,_,by have:=run_endLoop (P:=P) hl (by rw[hrec];simp);rw[hrec] at this;exact this,hstop _ pre _ (Nr' _) hSp (hIx.putObj _ hi oM hl rfl) ((World.putObj_heap_other oM).trans hk)⟩):p:=h
theorem qq110(h:p:=by
 simp[results,Tryz.f109,go_sem,d0,d1,d2,d3,d4,d5,d6,d7]):p:=h
theorem qq111(h:p:=by
 clear m0 m1 m2 m3 M6 M7;have f6:Fr [P] x5 x6:=((Fr.refl [P] x5).drew).trans f6;have f7:Fr [] (x6.alloc (.cells #[vI k2,vI a2,vS nm2,vI n2,vS s2,.slice A52 n52 c52,.slice A62 n62 c62,.slice A72 n72 c72] 27)) x7:=f7;have hs6:=f6.size;have hs5:=Aa g0;have row6:=An.lit As (T:=27) (size:=8) (ok:=fun b=>B<b∧¬ b=P) (hx2.keep (Sh.of_fr (Fr.refl [] x6) (fun b hb hlt=>⟨by have:x5.heap.size≤b:=hb;exact⟨oM,oM⟩,fun x=>by cases x⟩))) rfl (by exact⟨oM,oM⟩);have row7:=An.keep (ok':=fun b=>B<b) As row6 (Sh.of_fr f7 (fun b hb hlt=>⟨hb.1,fun x=>by cases x⟩));exact kqq111.out):p:=h
theorem qq112(h:p:=by
 go_wp2_with fail;refine(must_no _).mono ?_;rintro e w6 ⟨rfl,hf⟩;go_wp2_with fail;exact⟨rfl,Sd.gave (by rw[← HP.out,hn];rfl) (hb.frame.trans hf)⟩):p:=h
theorem qq113(h:p:=by
 refine leaves_cons (f:=76) (args:=#[.pointer (some ⟨B,0,none⟩),.pointer (some ⟨B+1,0,none⟩)]) sM (by simp[go_sem]) ?_;refine(Py B (B+1) _).mono ?_;rintro e u' w'' ⟨rfl,rfl,rfl⟩;have c0:=Ab h0 0;have c1:=Ab h1 0;simp only[Array.setIfInBounds,Array.size,List.length] at c0 c1;simp[Leaves,settle,results,Tryz.results35,go_sem,c0,c1];exact⟨by rw[eR];exact⟨rfl,rfl⟩,f2.step hF (fun x hx => .inr (by simp at hx;omega))⟩):p:=h
theorem qq114(h:p:=by
 have hform5:∃ A n0 cc,v5 = .slice A n0 cc:=by
  rcases rowS.own.2 with⟨hv,_⟩| ⟨g',cap,cur,hv,_⟩
  ·exact qq286
  ·exact qq286
 obtain⟨A5,n5,cc5,rfl⟩:=hform5
 have hform6:∃ A n0 cc,v6 = .slice A n0 cc:=by
  rcases rowE.own.2 with⟨hv,_⟩| ⟨g',cap,cur,hv,_⟩
  ·exact qq286
  ·exact qq286
 obtain⟨A6,n6,cc6,rfl⟩:=hform6;obtain⟨u,hu⟩:=Bn h0.inb;refine(Cp [125] P g c ts st0 u hu wr h0 HE.out).mono ?_;rintro e y1 ⟨rfl,h0,fm⟩;have g0:=fm.keep g0 sO;have q0:=fm.keep q0 sO;have F:=F.trans fm;exact kqq114.out):p:=h
theorem qq115(h:p:=by
 have kqq354:=@Hz _ @nn688;exact qq354):p:=h
theorem qq116(h:p:=by
 intro a nm n s ls args arms A5 A6 A7 c5 c6 c7 w0 w ok P S A c hN hmay hW hx h hb;obtain⟨hfo,hma,hmm⟩:=Fs hmay;exact kqq116.out):p:=h
theorem qq117(h:p:=by
 go_wp2_with fail
 go_end0
 exact Sd.done (HP.out.symm) (Dc (Ba HW.out)) hb.drop):p:=h
theorem qq118(h:p:=by
 intro k a nm n s ls args v5 v6 d D w σ hN hD hb hlo hx hs hok;have hx0:=hx
 cases hx with
 | mk c5 c6 h5 e5 h6 e6 =>
 have hsz:szP (.mk k a nm n s ls args)=1+E2 args:=by simp[szP]
 rw[hsz] at hN hb;rw[M2,goL]
 have hform:∃ A6 m6 cc6,v6 = .slice A6 m6 cc6∧m6=args.length:=by
  obtain⟨_,_,hv⟩:=h6.form;exact⟨_,_,_,hv,rfl⟩
 obtain⟨A6,m6,cc6,rfl,rfl⟩:=hform;have IH:=Hz ih;have H6:=Hz h6;have E6:Hid (∀ (i:Nat) (x:Al),args[i]?=some x→Bw w (fun b=>b<lo) x (c6 i)):=Hz e6;have HD:=Hz hD;have HS:=Hz hs;exact kqq118.out):p:=h
theorem qq119(h:p:=by
 exact⟨⟨l0,l1,l2,l3,l4,l5,l6,l7⟩,x0,x1,x2,x3,x4,x5,x6,x7⟩):p:=h
theorem qq120(h:p:=by
 unfold st8 at HG HF HP HX;obtain⟨⟨u0,u1,u2,u3,u4,u5,u6,u7⟩,z0,z1,z2,z3,z4,z5,z6,z7⟩:=Ac g0;go_wp2_with fail;exact kqq120.out):p:=h
theorem qq121(h:p:=by
 simp[results,Tryz.f160,go_sem,d0,d1,d2,d3,d4,d5,d6]):p:=h
theorem qq122(h:p:=by
 have HR:=Hz hR;clear hR;go_enter func32,ntmps32;go_wp2_with fail;have f0:Fr [] w (w.alloc (.cells #[vI k,vI a,vS nm,vI n,vS s,v5,.slice A6 args.length cc6,.slice A7 arms.length cc7] 27)):=(Fr.refl [] w).alloc _;have q0:=Ag w (.cells #[vI k,vI a,vS nm,vI n,vS s,v5,.slice A6 args.length cc6,.slice A7 arms.length cc7] 27)
 generalize w.alloc (.cells #[vI k,vI a,vS nm,vI n,vS s,v5,.slice A6 args.length cc6,.slice A7 arms.length cc7] 27)=w1 at *
 have hT1:=Aa q0
 generalize hT:w.heap.size=T at *
 exact kqq122.out):p:=h
theorem qq123(h:p:=by
 go_wp2_with fail;have q5:=Ag y2 (.cells #[vI u.k,vI u.at',.string ⟨u.text.toArray⟩,vI u.n] 52);have fb5:Fr [] y2 (y2.alloc (.cells #[vI u.k,vI u.at',.string ⟨u.text.toArray⟩,vI u.n] 52)):=(Fr.refl [] y2).alloc _;have h3:=h2.fr fb5
 generalize y2.alloc (.cells #[vI u.k,vI u.at',.string ⟨u.text.toArray⟩,vI u.n] 52)=y3 at *
 have hT5:=Aa q5;have hT4y:=Aa q0;have hs3:=fb5.size
 generalize y2.heap.size=T5 at *
 have g0:=fb5.keep g0 nE;have q0:=fb5.keep q0 nE;have F3:=F2.trans0 fb5;exact kqq123.out):p:=h
theorem qq124(h:p:=by
 generalize ((Gu 0 s.data.toList:Nat):Int)=v at *
 clear hp hnum hv hm r1 r2 hle
 rcases key with c1|⟨c1,c2⟩
 all_goals
  go_enter func62,ntmps62;go_wp2_with fail;refine HT.out.mono ?_;rintro e w1 ⟨rfl,hf⟩;go_wp2_with fail;refine(HP.out _).out.mono ?_;rintro e w2 ⟨rfl,hw⟩;have hf2:=Nn hw;clear hw;go_wp2_with fail;go_ret2;exact⟨rfl,hf.trans hf2⟩):p:=h
theorem qq125(h:p:=by
 go_wp2_with fail;refine(Gl 92 _ _ _ _ _ oM oM hb (by simp only[Lc'];omega)).mono ?_;rintro e x1 ⟨rfl,hb1⟩;go_wp2_with fail;refine(Gl _ _ _ _ _ _ oM oM hb1 (by simp only[La',Lc',Ln'];omega)).mono ?_;rintro e x2 ⟨rfl,hb2⟩;go_wp2_with fail
 go_roundw
 case rel=>exact⟨k+1,oM,by go_num,by rw[HQ.out];simpa [HE.out] using hb2⟩
 case measure=>simp[intOf];omega):p:=h
theorem qq126(h:p:=by
 simp[results,Tryz.f30,go_sem,d0,d1,d2,d3,d4,d5,d6,d7]):p:=h
theorem qq127(h:p:=by
 simp[results,Tryz.f29,go_sem,Gg,d0,d1,d2,d3]):p:=h
theorem qq128(h:p:=by
 refine(may_no [116,114,121] P g c ts st t HT.out HB3.out x4 h4 HE.out).mono ?_;have kqq229:=@Hz _ @nn429;exact qq229):p:=h
theorem qq129(h:p:=by
 exact⟨_,_,_,_,_,_,_,_,_,_,_,_,_,_,_,_,_,_,rfl,by rw[hB];exact hxx,.callE hr1 (.look ht (.may_yes ht hb (.callE hr2 .retE))),HP.out.fr ((Fr.refl [] Z).alloc _),HF.out.alloc _⟩):p:=h
theorem qq130(h:p:=by
 have H1:=(Ae (Ae (Ae h1 (.map (shE 19) 19)) (.map (paE 9) 9)) (.cells #[vI 0,.map (some (w.heap.size+1)),vZ,.map (some (w.heap.size+1+1)),.map (some (w.heap.size+1+1+1))] 70))
 have H2:=(Ae (Ae h2 (.map (paE 9) 9)) (.cells #[vI 0,.map (some (w.heap.size+1)),vZ,.map (some (w.heap.size+1+1)),.map (some (w.heap.size+1+1+1))] 70))
 have H3:=(Ae h3 (.cells #[vI 0,.map (some (w.heap.size+1)),vZ,.map (some (w.heap.size+1+1)),.map (some (w.heap.size+1+1+1))] 70))
 exact kqq130.out):p:=h
theorem qq131(h:p:=by
 go_simp;refine hK _ _ ?_;clear hK K;refine wpAny_ready (rs:=[1]) kR sM ?_;refine(AllReady.cons rfl (fun K hK=>?_) AllReady.nil);have kqq299:=@Hz _ @nn562;exact qq299):p:=h
theorem qq132(h:p:=by
 exact⟨_,_,_,_,_,_,_,_,_,_,_,_,_,_,_,_,_,_,rfl,by rw[hB];exact HX.out,HR.out _ _ (by simp;exact .retE),HP.out,HF.out⟩):p:=h
theorem qq133(h:p:=by
 refine⟨⟨?_,Dv h.row hf (fun g e=>?_),h.old,h.own,h.fr.step hf (fun x hx => .inr (by simp at hx;subst hx;exact h.old))⟩,hf.mono (fun x hx => .inl (by simp at hx;subst hx;exact Ay.2 (.inl rfl)))⟩
 ·have:=h.blk;simp[World.setCell,Array.getElem?_modify,this]
 ·cases A with
  | none=>cases e
  | some b=>cases e;simpa using(h.own b rfl).2):p:=h
theorem qq134(h:p:=by
 have q3:=fs.keep q3 sM;have g0:=fs.keep g0 sO;have h6:=h5.frL fs sO sO;have F6:=F5.step fs (fun x hx => .inr (by simp at hx;omega));clear m0 m1 m2 m3 u0 u1 u2 u3 u4 u5 u6 z0 z1 z2 z3 z4 z5 z6 q4;exact kqq134.out):p:=h
theorem qq135(h:p:=by
 go_enter func80,ntmps80;go_wp2_with fail;exact⟨rfl,rfl,by(repeat first|exact Fr.refl _ _|refine Fr.alloc ?_ _|refine Fr.drew ?_|refine Fr.setCell ?_ (.inr sM) _)⟩):p:=h
theorem qq136(h:p:=by
 obtain⟨V,sx,lsx,A4,c4,cs4,SP,A1,c1,hX,g1,g2,hl4,hst,hsb,hml,ha1,hz5⟩:=HPRE.out;have XE:=Hz hX;have G1:=Hz g1;have G2:=Hz g2;have LB:=Hz hl4;have ST:=Hz hst;have SBH:=Hz hsb;have ML:=Hz hml;have HA:Hid (∀ a,A1=some a→a.block<w.heap.size∨w.heap.size+3≤a.block):=Hz ha1;have Z5:=Hz hz5;clear HPRE hX g1 g2 hl4 hst hsb hml ha1 hz5
 generalize hX5:x5.heap.size=X5 at *
 generalize hR:w.heap.size+1=R at *
 generalize hT:R+1=T at *
 exact kqq136.out):p:=h
theorem qq137(h:p:=by
 have hx:¬ X=[]:=by
  have:=(Hs X (List.mem_of_find?_eq_some hq)).1;intro h;subst h;simp at this
 have hx0:X.isEmpty=false:=by cases X with|nil=>exact absurd rfl hx|cons _ _=>rfl
 have hx2:(ByteArray.mk X.toArray).toList=X:=by rw[ByteArray.toList_eq]
 have e1:¬ (ByteArray.mk X.toArray).toList=[]:=by rw[hx2];exact hx
 have e0:(ByteArray.mk X.toArray).toList.isEmpty=false:=by rw[hx2];exact hx0
 rw[Mp hq] at cs;clear hq hx2;simp only;exact kqq137.out):p:=h
theorem qq138(h:p:=by
 refine(Ei _ _).mono ?_;rintro e x1 ⟨rfl,rfl⟩;go_wp2_with fail;refine(cs _).out.mono ?_;rintro e x1 ⟨rfl,f1'⟩;have f1:=Fr.of_below f1';clear f1';exact qq40):p:=h
theorem qq139(h:p:=by
 go_enter func116,ntmps116;go_wp2_with fail;refine(cS _).out.mono ?_;rintro e w1 ⟨rfl,rfl⟩;go_wp2_with fail;refine(cR _ hb).out.mono ?_;rintro e w2 (⟨hok,rfl,hb⟩| ⟨hok,rfl,hf⟩)
 ·go_wp2_with fail
  go_end0
  exact Sd.done (by simp[hok]) rfl hb
 ·go_wp2_with fail;exact⟨rfl,Sd.gave (by simp[hok]) hf⟩):p:=h
theorem qq140(h:p:=by
 induction l generalizing i with
 | nil=>simp at hi
 | cons y l ih=>cases i with
  | zero=>simp at hi;subst hi;exact h.1
  | succ i=>exact ih h.2 (by simpa using hi)):p:=h
theorem qq141(h:p:=by
 exact⟨_,_,_,_,_,_,_,_,_,_,_,_,_,_,_,_,_,_,rfl,by rw[hB];exact HX.out,HR.out _ _ (.look hu (by rw[if_neg (by rw[hc];decide)];exact .retE)),HP.out,HF.out⟩):p:=h
theorem qq142(h:p:=by
 refine Af (i:=0) (v:=?_) rfl kR kR kR (fun _ _ _ h=>h) (Or.inl ⟨by rfl,?_⟩) aS ?_
 rotate_left
 ·exact qq9
 (try simp only[Act.put,sX])
 refine Af (i:=1) (v:=?_) rfl kR kR kR (fun _ _ _ h=>h) (Or.inl ⟨by rfl,?_⟩) aS ?_
 rotate_left
 ·exact qq9
 (try simp only[Act.put,sX])
 refine Af (i:=2) (v:=?_) rfl kR kR kR (fun _ _ _ h=>h) (Or.inl ⟨by rfl,?_⟩) aS ?_
 rotate_left
 ·exact qq9
 (try simp only[Act.put,sX])
 exact kqq142.out):p:=h
theorem qq143(h:p:=by
 go_enter func94,ntmps94;go_wp2_with fail;obtain⟨g0,g1,g2,f0,z0⟩:=Gy w (.cells #[vI k,vI a,vS nm,vI n,vS s,.slice A5 ls.length c5,.slice A6 args.length c6] 123) Ep (.cells #[vI k,vI 0,vI n,vS s,vZ,vZ] 76);unfold Lw at g0 g1 g2 f0 z0
 generalize ((w.alloc (.cells #[vI k,vI a,vS nm,vI n,vS s,.slice A5 ls.length c5,.slice A6 args.length c6] 123)).alloc Ep).alloc (.cells #[vI k,vI 0,vI n,vS s,vZ,vZ] 76)=x5 at *
 exact kqq143.out):p:=h
theorem qq144(h:p:=by
 rintro e x1 ⟨k1,a1,nm1,n1,s1,ls1,args1,arms1,A51,n51,c51,A61,n61,c61,A71,n71,c71,st1,rfl,hx1,hr1,hst1,f1⟩;have g0:=f1.keep g0 (by simpa using nB);have hGx:=g0;have hs1:=f1.size;exact kqq144.out):p:=h
theorem qq145(h:p:=by
 have HB0:=Hz hb0;clear hb0;have HB1:=Hz hb1;clear hb1;have HB2:=Hz hb2;clear hb2;have HB3:=Hz hb3;clear hb3;have HB4:=Hz hb4;clear hb4;exact kqq145.out):p:=h
theorem qq146(h:p:=by
 go_wp2_with fail;refine(must_no _).mono ?_;rintro e w6 ⟨rfl,hf⟩;go_wp2_with fail;exact⟨rfl,Sd.gave (by rw[← HP.out,hn]) (hb.frame.trans hf)⟩):p:=h
theorem qq147(h:p:=by
 have cellsOf:∀ {A B:World} {row:Option Nat},(∀ r,row=some r→W1.heap.size≤r∧∃ o:Obj,A.heap[r]?=some o∧o.isWalk=true)→(∀ r,row=some r→w.heap.size≤r∧∃ o:Obj,A.heap[r]?=some o∧o.isCells=false):=
  fun hr r e=>by obtain⟨hB,o,ho,hw⟩:=hr r e;exact⟨Nat.le_trans hb1.size hB,o,ho,Obj.not_cells_of_walk hw⟩
 have nl:w.heap.size+1≠Bs:=by omega
 have nd:w.heap.size≠Bs:=by omega
 exact kqq147.out):p:=h
theorem qq148(h:p:=by
 obtain⟨k0,a0,nm0,n0,s0,ls0,args0,arms0,A50,n50,c50,A60,n60,c60,A70,n70,c70,st0,F,_,hT,g0,q0,hx0,h0,hle0,HR⟩:=hrel;clear hx1 h2 HR0 q1 F2 hle hT1;obtain⟨u,hu⟩:=Bn h0.inb;exact kqq148.out):p:=h
theorem qq149(h:p:=by
 go_wp2_with fail;refine(cn _ H.out).out.mono ?_;rintro e x1 ⟨rfl,f1⟩;have h1:=H.out.fr f1;have hP1:=Aa h1.blk;obtain⟨p0,p1,p2,_⟩:=Fp h1.blk;clear h1;go_wp2_with fail;exact kqq149.out):p:=h
theorem qq150(h:p:=by
 rcases Ay.1 hx with e|⟨a,e,e2⟩
 ·omega
 ·have:=H.out.own_lt a e;omega):p:=h
theorem qq151(h:p:=by
 obtain⟨h1,h2,h3,h4⟩:=Fi ha h.one hp.1;exact⟨by simp only[Ck.one] at h1;omega,h2,h3,h4⟩):p:=h
theorem qq152(h:p:=by
 simp[results,Tryz.f138,go_sem,d0,d1,d2,d3,d4,d5,d6]):p:=h
theorem qq153(h:p:=by
 have hf:∃ A m cc,v52 = .slice A m cc:=by obtain⟨_,_,hv⟩:=h52.form;exact⟨_,_,_,hv⟩
 obtain⟨A52,m52,cc52,rfl⟩:=hf;have hf:∃ A m cc,v62 = .slice A m cc:=by obtain⟨_,_,hv⟩:=h62.form;exact⟨_,_,_,hv⟩
 obtain⟨A62,m62,cc62,rfl⟩:=hf;have hf:∃ A m cc,v72 = .slice A m cc:=by obtain⟨_,_,hv⟩:=h72.form;exact⟨_,_,_,hv⟩
 obtain⟨A72,m72,cc72,rfl⟩:=hf;exact kqq153.out):p:=h
theorem qq154(h:p:=by
 intro k o e;obtain⟨h1,h2,h3⟩:=hr k o e;refine⟨hf.keep h1 ?_,h2,?_⟩
 ·intro hx;simp only[List.mem_cons,Option.mem_toList] at hx;rcases hx with hx|hx
  ·exact h2 hx
  ·exact h3 hx
 ·intro e';rcases hfp k e' with h|h
  ·exact h3 h
  ·have:=Aa h1;omega):p:=h
theorem qq155(h:p:=by
 go_wp2_with fail;refine(hb.add1 [125] _ (by have h1:=congrArg List.length hw;have h2:=HL.out;simp only[La',Ln',Lc'] at h1 ⊢;omega)).mono ?_;rintro e w4 ⟨rfl,hb⟩;go_wp2_with fail
 go_end0
 exact Sd.done (by rw[← ho];rfl) (by rw[← hw];simp) hb.drop):p:=h
theorem qq156(h:p:=by
 exact⟨_,_,_,_,_,_,_,_,_,_,_,_,_,_,_,_,_,_,rfl,by rw[hB];exact HX.out,.callE hr1 (.look ht (.may_no ht hb .retE)),HP.out,HF.out⟩):p:=h
theorem qq157(h:p:=by
 rw[hEs];dsimp only;clear hEs hargs;have hsz:=HNS.out;have hgA:=Pt (.mk p0 pa0 pn0 pi0 ps0 pl0 pr0 pm0) S;have hlA:=P8 (.mk p0 pa0 pn0 pi0 ps0 pl0 pr0 pm0) S;have hSB1:SB S (szE (.mk p0 pa0 pn0 pi0 ps0 pl0 pr0 pm0)):=HB.out.mono oM;have hSB2:SB (tmE (.mk p0 pa0 pn0 pi0 ps0 pl0 pr0 pm0) S).2 (1+szE (.mk p1 pa1 pn1 pi1 ps1 pl1 pr1 pm1)):=SB.step (HB.out.mono oM) hgA;exact kqq157.out):p:=h
theorem qq158(h:p:=by
 refine(must_no _).mono ?_;rintro e w1 ⟨rfl,hf⟩;go_wp2_with fail;exact⟨rfl,Sd.gave rfl (hb.frame.trans ((show Fr [] wr _ by(repeat first|exact Fr.refl _ _|refine Fr.alloc ?_ _|refine Fr.drew ?_|refine Fr.setCell ?_ (.inr sM) _)).trans hf))⟩):p:=h
theorem qq159(h:p:=by
 generalize l[k]=y at *
 go_wp2_with fail
 go_round
 case rel=>exact⟨k+1,by go_num,oM,HS2⟩
 case measure=>simp[intOf];omega):p:=h
theorem qq160(h:p:=by
 go_wp2_with fail;refine(cN _ (HV.out.fr hb.frame)).out.mono ?_;rintro e w2 ⟨rfl,hf⟩;replace hb:=hb.fr hf;clear hf;clear l0 l1 l2 l3 l4 l5 l6;obtain⟨⟨l0,l1,l2,l3,l4,l5,l6⟩,_⟩:=Ao (hb.at (Lm' ..));exact kqq160.out):p:=h
theorem qq161(h:p:=by
 cases bv <;> cases bn <;> cases bs
 all_goals
  simp only[Bool.false_eq_true,false_or,reduceCtorEq,true_or] at hv hn hs
  try subst hv
  try subst hn
  try subst hs
  go_enter func47,ntmps47;go_wp2_with fail;go_ret;exact⟨rfl,f0⟩):p:=h
theorem qq162(h:p:=by
 simp[results,Tryz.f8,go_sem,d0,d1,d2,d3,d4,d5,d6,d7]):p:=h
theorem qq163(h:p:=by
 refine(must_no _).mono ?_;rintro e w6 ⟨rfl,hf⟩;go_wp2_with fail;exact⟨rfl,Sd.gave (rfl) (hb.frame.trans hf)⟩):p:=h
theorem qq164(h:p:=by
 simpa only[World.size_alloc] using this):p:=h
theorem qq165(h:p:=by
 exact⟨_,_,_,_,_,_,_,_,_,_,_,_,_,_,_,_,_,_,rfl,hxx.keep (Sh.of_fr (Fr.refl [] Z) (fun b hb hlt=>⟨oM,fun x=>by cases x⟩)),HR.out _ _ (by(first|rw[if_neg dC] | rw[if_neg id]);exact .must_ hu .retE),HP.out,HF.out⟩):p:=h
theorem qq166(h:p:=by
 obtain⟨own,hb,hg,hbw,hfr,hr⟩:=h;refine⟨own,hb.keep hf (fun h=>by cases h) (fun _ _ h=>by cases h),hg,hbw,hfr.trans hf,fun k o e=>?_⟩;obtain⟨h1,h2⟩:=hr k o e;exact⟨hf.keep h1 (fun h=>by cases h),h2⟩):p:=h
theorem qq167(h:p:=by
 have hb0:=hb.new (.cells #[vI k,vI a,vS nm,vI n,vS s,.slice A5 ls.length c5,.slice A6 args.length c6,.slice A7 arms.length c7] 27);go_enter func37,ntmps37;go_wp2_with fail;have q0:=hb0.at (Lm' ..);exact kqq167.out):p:=h
theorem qq168(h:p:=by
 split at h
 ·cases h
 ·simp only[Except.ok.injEq,Prod.mk.injEq] at h;obtain⟨rfl,rfl,rfl,rfl⟩:=h;exact qq282):p:=h
theorem qq169(h:p:=by
 go_wp2_with fail
 go_roundw
 case rel=>exact⟨i+1,_,sM,oM,hb.drop,HW2,HO2⟩
 case measure=>simp[intOf];omega):p:=h
theorem qq170(h:p:=by
 go_roundw
 case rel=>exact⟨pos+1,hit2,oM,hfb,HA2⟩
 case measure=>simp only[World.iterPos,hit2,hit];omega):p:=h
theorem qq171(h:p:=by
 go_wp2_with fail;refine bodyPost_ret (v:=_) ?_ rfl ⟨rfl,by(repeat first|exact Fr.refl _ _|refine Fr.alloc ?_ _|refine Fr.drew ?_|refine Fr.setCell ?_ (.inr sM) _)⟩;simp[results,Tryz.f80,go_sem,Lm.v]):p:=h
theorem qq172(h:p:=by
 go_wp2_with fail;exact⟨rfl,Sd.gave (by simp[hok]) hf⟩):p:=h
theorem qq173(h:p:=by
 have s1:(w.alloc (.cells #[vI k,vI a,vS nm,vI n,vS s,.slice A5 m5 cc5,.slice A6 m6 cc6,.slice A7 m7 cc7] 27)).heap.size=w.heap.size+1:=by simp
 have s2:((w.alloc (.cells #[vI k,vI a,vS nm,vI n,vS s,.slice A5 m5 cc5,.slice A6 m6 cc6,.slice A7 m7 cc7] 27)).alloc (.cells #[vI most] 3)).heap.size=w.heap.size+2:=by simp
 exact kqq173.out):p:=h
theorem qq174(h:p:=by
 cases b6 <;>(go_enter func81,ntmps81;go_wp2_with fail;go_ret;exact⟨by simp[Ah, *],by(repeat first|exact Fr.refl _ _|refine Fr.alloc ?_ _|refine Fr.drew ?_|refine Fr.setCell ?_ (.inr sM) _)⟩)):p:=h
theorem qq175(h:p:=by
 intro P g c st w h hm;have H:=Hz h;have hP:=Aa h.blk;have hgl:=h.lt;have hin:=h.inb;have HN:=Hz hm;have HE:=Hz hE;have IH:=Hz ih;clear h hm hE ih;exact kqq175.out):p:=h
theorem qq176(h:p:=by
 unfold Oper.wp execOp;simp only[ho,resolve,invoke,builtin,Sem.run_bind,Sem.run_pure,Result.andThen_ok,List.map_toArray,List.map_cons,List.map_nil,hs,hx,hr];exact hK _ _ (h v' w' h2 h3 h4)):p:=h
theorem qq177(h:p:=by
 obtain⟨d0,d1,d2,d3,_⟩:=Ar gz;refine bodyPost_ret (v:=.tuple #[Gg 0 0 ([]:LB) 0,vI ((0:Nat):Int),vI 20]) ?_ rfl ?_
 ·exact qq127
 ·exact⟨Ip rfl,fz⟩):p:=h
theorem qq178(h:p:=by
 have e1:¬ s.toList=[]:=by rw[ByteArray.toList_eq];exact h0
 have e0:s.toList.isEmpty=false:=by rw[ByteArray.toList_eq];cases h:s.data.toList with|nil=>exact absurd h h0|cons _ _=>rfl
 exact kqq178.out):p:=h
theorem qq179(h:p:=by
 go_wp2_with fail;refine(hb.add1 (Lib.itoa n) _ (by have:=Bb HW.out HL.out;omega)).mono ?_;rintro e w5 ⟨rfl,hb⟩;go_wp2_with fail
 go_end0
 exact Sd.done (rfl) (Dc (Ba HW.out)) hb.drop):p:=h
theorem qq180(h:p:=by
 go_wp2_with fail;exact⟨rfl,Sd.gave (by rw[← HO.out,hok]) hf⟩):p:=h
theorem qq181(h:p:=by
 exact⟨rfl,Fr.refl _ _⟩):p:=h
theorem qq182(h:p:=by
 simp only[Except.ok.injEq,Prod.mk.injEq] at h;omega):p:=h
theorem qq183(h:p:=by
 induction h with
 | mk c5 c6 cp ce h5 e5 h6 e6 h7 e7 e8 ih6 ih8=>exact .mk c5 c6 cp ce (h5.keep hs) e5 (h6.keep hs) ih6 (h7.keep hs) (fun i p x hi=>(e7 i p x hi).keep hs) ih8):p:=h
theorem qq184(h:p:=by
 repeat' with_reducible refine Vc ?_ ?_
 all_goals try simp only[La',Lc',Ln']
 all_goals omega):p:=h
theorem qq185(h:p:=by
 refine(cr _).out.mono ?_;rintro e x1 ⟨rfl,f1⟩;go_wp2_with fail;refine(cw _ ((hE.fr f0).fr f1)).out.mono ?_;rintro e x2 ⟨rfl,f2⟩;rw[hw2];have g:=f2.keep (f1.keep h0 (fun h=>by cases h)) (fun h=>by cases h);obtain⟨c0,c1,c2,c3,z0,z1,z2,z3⟩:=Ar g;have ff:=(f0.trans f1).trans f2;exact kqq185.out):p:=h
theorem qq186(h:p:=by
 go_enter func94,ntmps94;go_wp2_with fail
 generalize ((w.alloc (.cells #[vI k,vI a,vS nm,vI n,vS s,.slice A5 ls.length c5,.slice A6 args.length c6] 123)).alloc Ep).alloc (.cells #[vI k,vI 0,vI n,vS s,vZ,vZ] 76)=x5 at *
 refine(cC x5 f0 (Ab g0 2) oM).out.mono ?_;rintro e x6 ⟨rfl,f6⟩;exact kqq186.out):p:=h
theorem qq187(h:p:=by
 obtain⟨⟨l0,l1,l2,l3,l4,l5,l6,l7⟩,_⟩:=Ac (hb.at (Lm' ..));have C2:=Hz (IH.out k2 a2 nm2 n2 s2 ls2 args2 arms2 A52 A62 A72 c52 c62 c72 _ _ _ (by have:=Kd HX.out;have:=HN.out;omega) (HS.out.get HX.out) hx2 hb (by have:=Bb HW1.out HL.out;omega));clear hx2;go_wp2_with fail;exact kqq187.out):p:=h
theorem qq188(h:p:=by
 go_wp2_with fail;have f0:Fr [] w (w.alloc (.cells #[vI 0,vI 0,vE,vI 0,vE,vZ,vZ,vZ] 27)):=(Fr.refl [] w).alloc _;have g0:=Ag w (.cells #[vI 0,vI 0,vE,vI 0,vE,vZ,vZ,vZ] 27)
 generalize w.alloc (.cells #[vI 0,vI 0,vE,vI 0,vE,vZ,vZ,vZ] 27)=w1 at *
 generalize hB:w.heap.size=B at *
 exact kqq188.out):p:=h
theorem qq189(h:p:=by
 simp[World.setCell,Array.getElem?_modify,this]):p:=h
theorem qq190(h:p:=by
 rw[this];exact hown2.kept (row:=some b) ⟨rfl,rfl,rfl,by simp[World.setCell],fun k _ hk=>Below.heap_setCell _ _ _ _ (fun e=>hk (by simp[e]))⟩ (Or.inr hgb)):p:=h
theorem qq191(h:p:=by
 rcases Nat.eq_zero_or_pos s.size with h' | h'
 ·exact absurd (by rw[Lib.toList_data];exact List.eq_nil_of_length_eq_zero (by rw[Bu];exact h')) he
 ·exact h'):p:=h
theorem qq192(h:p:=by
 unfold Ef;rw[Bool.or_eq_false_iff,Bool.and_eq_false_iff];refine⟨.inl (by rw[decide_eq_false_iff_not];omega),bN.2 (fun e=>by subst e;exact absurd h dC)⟩):p:=h
theorem qq193(h:p:=by
 have ei:i=arms.length:=by omega
 subst ei;go_wp2_with fail;go_ret;have e:R=(τ',true):=by rw[HG.out,List.drop_length];simp[Cu,goL]
 rw[e];exact⟨rfl,hs,f⟩):p:=h
theorem qq194(h:p:=by
 have ei:i=args.length:=by omega
 subst ei;go_wp2_with fail;go_ret;have e:R=(τ,true):=by rw[HG.out,List.drop_length];simp[Dx,goL]
 rw[e];exact⟨rfl,hs,f⟩):p:=h
theorem qq195(h:p:=by
 simp[Cc,Ah] at h1;simp[Bq] at h2;obtain⟨⟨⟨⟨rfl,rfl⟩,rfl⟩,rfl⟩,rfl⟩:=h1;exact kqq195.out):p:=h
theorem qq196(h:p:=by
 rintro e x1 ⟨rfl,hb1⟩;go_wp2_with fail
 go_roundw
 case rel=>exact⟨k+1,oM,by go_num,by rw[HQ.out];simpa using hb1⟩
 case measure=>simp[intOf];omega):p:=h
theorem qq197(h:p:=by
 rw[Bool.eq_false_iff];intro hb;rcases Fv hb with rfl|rfl <;> revert h <;> decide):p:=h
theorem qq198(h:p:=by
 cases B3.find? (fun x=>x.isPrefixOf s.data.toList)with
 | none=>rfl
 | some x=>rfl):p:=h
theorem qq199(h:p:=by
 unfold reachBytes;omega):p:=h
theorem qq200(h:p:=by
 rename_i h;subst h;cases x with
 | nil=>exact absurd rfl hx
 | cons y r=>simp[Fk]):p:=h
theorem qq201(h:p:=by
 rw[Ib,Jy _ _ _ _ rfl,if_neg dC,if_neg dC];exact .retE h):p:=h
theorem qq202(h:p:=by
 clear hb2 HG hok;have q0:=Hz q0;go_wp2_with fail
 go_roundw
 case rel=>exact⟨i+1,_,sM,oM,hs3,hok3,f4,q0.out,HG2⟩
 case measure=>simp[intOf];omega):p:=h
theorem qq203(h:p:=by
 go_enter func89,ntmps89;go_wp2_with fail;refine(cN _ (HV.out.fr hb0.frame)).out.mono ?_;rintro e w5 ⟨rfl,hf⟩;replace hb:=hb0.fr hf;clear hf hb0
 generalize wr.heap.size=T at *
 obtain⟨⟨l0,l1,l2,l3,l4,l5,l6,l7⟩,_⟩:=Ac (hb.at (Lm' ..));go_wp2_with fail;exact kqq203.out):p:=h
theorem qq204(h:p:=by
 simp[results,Tryz.f140,go_sem,d0,d1,d2,d3,d4,d5,d6,d7]):p:=h
theorem qq205(h:p:=by
 obtain⟨hk3,hi3⟩:=hp;obtain⟨hr,hl3,hl4,hk4⟩:=ends (some .ret) V hk3;exact⟨_,_,hr,.inr ⟨rfl,hIx.putObj _ hi3 oM hl3 rfl,hl4,hk4⟩⟩):p:=h
theorem qq206(h:p:=by
 generalize c7 i=C at *
 cases this with
 | mk hp hx hl=>exact⟨sM,by rw[← hl,List.take_left];exact hp,by rw[← hl,List.drop_left];exact hx⟩):p:=h
theorem qq207(h:p:=by
 go_wp2_with fail
 go_end0
 exact Sd.done (by rw[← HO.out,hok]) rfl hb.drop):p:=h
theorem qq208(h:p:=by
 obtain⟨⟨l0,l1,l2,l3,l4,l5,l6,l7⟩,f0,f1,f2,f3,f4,f5,f6,f7⟩:=Ac T2.t;obtain⟨⟨u0,u1,u2,u3,u4,u5,u6,u7⟩,z0,z1,z2,z3,z4,z5,z6,z7⟩:=Ac T2.r;have kqq251:=@Hz _ @nn494;exact qq251):p:=h
theorem qq209(h:p:=by
 refine .callE hr (.look hu (Run.mayN hu hb ?_));rw[if_neg dC];exact .retE):p:=h
theorem qq210(h:p:=by
 go_wp2_with fail;go_ret;have e:R=(((Du most) σ (a,d)).1,false):=by rw[← HR.out,if_neg (by rw[hb1];decide)]
 rw[e];exact⟨rfl,hs2,f2⟩):p:=h
theorem qq211(h:p:=by
 go_wp2_with fail;go_ret;have e:R=(((Cb most) σ (a,d)).1,false):=by rw[← HR.out,if_neg (by rw[hb1];decide)]
 rw[e];exact⟨rfl,hs2,f2⟩):p:=h
theorem qq212(h:p:=by
 rintro e y3 ⟨rfl,h0,fm⟩;have g0:=fm.keep g0 sO;have q0:=fm.keep q0 sO;have F:=F.trans fm;clear fm;have kqq252:=@Hz _ @nn501;exact qq252):p:=h
theorem qq213(h:p:=by
 have hpl1:=h0.pl;rw[hpl1,hpl0]
 simp only at *
 omega):p:=h
theorem qq214(h:p:=by
 clear hb3 HG2 HG hok3 hok;go_wp2_with fail
 go_roundw
 case rel=>exact⟨i+1,_,sM,oM,hs4,hok4,f6,HG3⟩
 case measure=>simp[intOf];omega):p:=h
theorem qq215(h:p:=by
 go_wp2_with fail;refine(h.add2 x [32,61,32] _ sO).mono ?_;rintro e w2 ⟨rfl,hb⟩;go_wp2_with fail
 go_end0
 exact Sd.done rfl rfl hb):p:=h
theorem qq216(h:p:=by
 rcases h.row.2 with⟨hv,_⟩| ⟨g,cap,cur,hv,_,hg,_⟩
 ·injection hv with hv;rw[hv] at e;cases e
 ·cases hv;cases e;exact Aa hg):p:=h
theorem qq217(h:p:=by
 go_enter func62,ntmps62;go_wp2_with fail;refine HT.out.mono ?_;rintro e w1 ⟨rfl,hf⟩;go_wp2_with fail;go_ret2;exact⟨rfl,hf⟩):p:=h
theorem qq218(h:p:=by
 exact⟨_,_,_,_,_,_,_,_,_,_,_,_,_,_,_,_,_,_,rfl,by rw[hB];exact hxx,.look ht (.may_yes ht hb (.callE hr2 .retE)),HP.out,HF.out⟩):p:=h
theorem qq219(h:p:=by
 obtain⟨h1,h2,h3,h4⟩:=Fi ha (h.bind1 _) hp.1;simp only[Ck.one,Ck.bind] at h1;exact⟨by dsimp only;omega,h2,h.same oM,rfl⟩):p:=h
theorem qq220(h:p:=by
 clear hb2 HG hok;go_wp2_with fail
 go_roundw
 case rel=>exact⟨i+1,_,sM,oM,hs3,hok3,f4,HG2⟩
 case measure=>simp[intOf];omega):p:=h
theorem qq221(h:p:=by
 rcases h.row.2 with⟨hv,_⟩| ⟨g,cap,cur,hv,_,hg,_⟩
 ·injection hv with hv;rw[hv] at e;cases e
 ·cases hv;cases e;rfl):p:=h
theorem qq222(h:p:=by
 intro x hx;simp only[List.mem_cons,Option.mem_toList] at hx;rcases hx with rfl|hx
 ·exact .inr hbw
 ·exact .inr (hg x hx)):p:=h
theorem qq223(h:p:=by
 refine Av rF _ _ 24 rF 27 i0 _ 8 128 underlying24 HI.out HZ0.out HZ1.out HZ2.out rfl dC (.slice (some ⟨g9,0,none⟩) 2 cp9) 2 (Co (fun i=>if i=[(.mk k1 a1 nm1 n1 s1 ls1 args1 arms1)].length then [vI k2,vI a2,vS nm2,vI n2,vS s2,.slice A52 n52 c52,.slice A62 n62 c62,.slice A72 n72 c72] else [vI k1,vI a1,vS nm1,vI n1,vS s1,.slice A51 n51 c51,.slice A61 n61 c61,.slice A71 n71 c71]) 2) rF ROW9.own ⟨x8.heap.size,0,none⟩ 1 1 [vI k3,vI a3,vS nm3,vI n3,vS s3,.slice A53 n53 c53,.slice A63 n63 c63,.slice A73 n73 c73] rF rfl (World.news_of_block (Ag x8 _)) (by simp[Value.oneCell']) dC dC ?_;intro v9 w9 hown9 hgrow9 hfp9;obtain⟨g8,cp8,hv9⟩:∃ g cap,v9 = .slice (some ⟨g,0,none⟩) (3) cap:=Cd hown9
 subst hv9;have Q9:=(hgrow9.block T (Aa (Ae Q8 (.cells #[vI k3,vI a3,vS nm3,vI n3,vS s3,.slice A53 n53 c53,.slice A63 n63 c63,.slice A73 n73 c73] 27))) (fun e=>(ROWH.out.blk T e.symm).2.1 rfl)).trans (Ae Q8 (.cells #[vI k3,vI a3,vS nm3,vI n3,vS s3,.slice A53 n53 c53,.slice A63 n63 c63,.slice A73 n73 c73] 27));have hT9:=Aa Q9;obtain⟨⟨u0,u1,u2,u3,u4,u5,u6,u7⟩,z0,z1,z2,z3,z4,z5,z6,z7⟩:=Ac Q9;exact kqq223.out):p:=h
theorem qq224(h:p:=by
 go_simp;refine((cS _ (h0.fr (Fr.refl [] y0).drew)).out).mono ?_;rintro e x8 ⟨k2,a2,nm2,n2,s2,ls2,args2,arms2,A52,n52,c52,A62,n62,c62,A72,n72,c72,st5,rfl,hx2,hr2,hst5,f8⟩;have hst:=hst5;have Q8:=f8.keep (w:=y0.drew) q0 sO;have hT8:=Aa Q8;have ROW9:=An.keep (w':=x8.alloc (.cells #[vI k2,vI a2,vS nm2,vI n2,vS s2,.slice A52 n52 c52,.slice A62 n62 c62,.slice A72 n72 c72] 27)) (ok':=fun b=>B<b∧¬ b=T∧¬ b=P) As ROWH.out (Sh.of_fr (((Fr.refl [P] y0).drew.trans f8).alloc _) (fun b hb hlt=>⟨hb,by simp;exact hb.2.2⟩));go_simp;exact kqq224.out):p:=h
theorem qq225(h:p:=by
 have kqq365:=@Hz _ @nn725;exact qq365):p:=h
theorem qq226(h:p:=by
 refine(may_no [125] P g c ts st t HT.out HB.out w1 h0 HE.out).mono ?_;rintro e x1 ⟨rfl,fm⟩;have kqq322:=@Hz _ @nn593;exact qq322):p:=h
theorem qq227(h:p:=by
 refine(may_yes [45] P g c ts st t HT.out HB0.out w1 h0 HE.out).mono ?_;rintro e y1 ⟨rfl,h0,fm⟩;have kqq355:=@Hz _ @nn692;exact qq355):p:=h
theorem qq228(h:p:=by
 have hnD2:D ∉ scL P A2:=fun hx=>by
  rcases Ay.1 hx with e|⟨a,e,e2⟩
  ·omega
  ·rcases Tb.ap a e with h1|h1
   ·omega
   ·exact(hAD a e e2.symm)
 obtain⟨j0,j1,j2,j3,j4,j5,j6,j7⟩:=HC1.out.at hg Tb.st.1.fr;simp only[Nat.one_mul,Nat.add_assoc,Nat.reduceAdd] at j0 j1 j2 j3 j4 j5 j6 j7;obtain⟨⟨i0,i1,i2,i3,i4,i5,i6,i7⟩,_⟩:=Ac Tb.e;obtain⟨⟨b0,b1,b2,b3,b4,b5,b6,b7⟩,_⟩:=Ac pDb;have hDT:¬ D=w.heap.size+1+1:=by omega
 have hTD:¬ w.heap.size+1+1=D:=by omega
 have hET:¬ w.heap.size=w.heap.size+1+1:=by omega
 have hTE:¬ w.heap.size+1+1=w.heap.size:=by omega
 have HSb:=Tb.st.1.fr0 (Fr.refl [] yb).drew;have HTb:=Hz Tb;have HXb:=Hz hXb;have HPD:=Hz pDb;clear Tb hXb pDb;exact kqq228.out):p:=h
theorem qq229(h:p:=by
 rintro e x4 ⟨rfl,f5⟩;go_wp2_with fail;have g0:=f5.keep g0 nE;have q3:=f5.keep q3 nE;have h4:=h4.fr f5;have f4:=f4.trans f5;have hs4:=f5.size;clear f5 hs4;exact kqq229.out):p:=h
theorem qq230(h:p:=by
 have HX0:=Hz hk0;clear ih h5 e5 h6 e6 h7 e7 e8 hN hN' h1 h2 h3 h4 h5' h6' h7' h8' h9' h hb hX hfo hma hmm hk0 hmay
 obtain⟨xx0,hargs⟩:∃ xx0,args=[xx0]:=by
  rcases args with _|⟨x,_|_⟩<;> simp at hal
  exact⟨x,rfl⟩
 have hy0:args[0]?=some xx0:=by rw[hargs];rfl
 have ha0:(0:Int)<(args.length:Int):=by omega
 have hn0:0<args.length:=by omega
 have hsz0:Bk args=szE xx0:=by rw[hargs];simp[Bk]
 have kqq342:=@Hz _ @nn653;exact qq342):p:=h
theorem qq231(h:p:=by
 have hfin:=TSt.fin (HT9.out.fr0 ((Fr.refl [] _).alloc (.cells #[vI k1,vI a1,vI v1,vI n1,.string ⟨s1⟩,.slice B51 n51 e51,.slice B61 n61 e61,.slice B71 n71 e71,vI k3,vI a3,vI v3,vI n3,.string ⟨s3⟩,.slice B53 n53 e53,.slice B63 n63 e63,.slice B73 n73 e73] 34))) hP HLE.out (hZ.both hsz (.cells #[vI k1,vI a1,vI v1,vI n1,.string ⟨s1⟩,.slice B51 n51 e51,.slice B61 n61 e61,.slice B71 n71 e71,vI k3,vI a3,vI v3,vI n3,.string ⟨s3⟩,.slice B53 n53 e53,.slice B63 n63 e63,.slice B73 n73 e73] 34)) hX9;obtain⟨⟨g0,g1,g2,g3,g4,g5,g6,g7⟩,_⟩:=Ac hG;have hRz:=Aa hG;exact kqq231.out):p:=h
theorem qq232(h:p:=by
 obtain⟨⟨d0,d1,d2,d3,d4,d5,d6,d7⟩,_⟩:=Ac (Ae HG.out (.cells #[vI k2,vI a2,vS nm2,vI n2,vS s2,.slice A52 n52 c52,.slice A62 n62 c62,.slice A72 n72 c72] 27));have hBZ:B≤Z.heap.size:=by have:=Aa HG.out;omega
 have row:=An.lit As (T:=27) (size:=8) HX2.out rfl (ok:=fun b=>B≤b) hBZ;rw[HS.out] at row;exact kqq232.out):p:=h
theorem qq233(h:p:=by
 have rowS:=An.keep (ok':=fun b=>(B<b∧¬ b=T∧¬ b=P)∧(Value.slice (some ⟨g8,0,none⟩) (args.length+1) cp8).ownBlock≠some b) Cg rowS (fun b hb hlt=>⟨⟨hb.1,fun e=>(hnew b e).elim hb.2 (fun h=>by omega)⟩,hsh b hlt hb.1.2.1 hb.1.2.2 hb.2⟩);clear hsh hnew;clear ROWH ROW9 Q8 Q9 hown9 hgrow9 hfp9 f8 hst hT8 hT9 hTwr
 generalize w9.setCell ⟨T,6,none⟩ (.slice (some ⟨g8,0,none⟩) (args.length+1) cp8)=w3_ at *
 clear X5 hsz cS;go_wp2_with fail;obtain⟨v,hv⟩:=Bn h0.inb;have hle5:=hr3.le;have hpl0:=HPL.out;exact kqq233.out):p:=h
theorem qq234(h:p:=by
 go_simp;refine(J6 P g c ts st0 u hu _ (h0.fr (Fr.refl [] wr).drew) HE.out).mono ?_;rintro e x8 ⟨rfl,hst,f8⟩;have hxn:StrE x8 (fun b=>wr.heap.size≤b) (Be u st0) [.string ⟨(Be u st0).toArray⟩]:=rfl;have Q8:=f8.keep (w:=wr.drew) q0 sO;have hT8:=Aa Q8;have ROW9:=An.keep (w':=x8.alloc (.cells #[.string ⟨(Be u st0).toArray⟩] 9)) (ok':=fun b=>(B<b∧¬ b=T∧¬ b=P)∧(v6).ownBlock≠some b) Cg ROWH.out (Sh.of_fr (((Fr.refl [P] wr).drew.trans f8).alloc _) (fun b hb hlt=>⟨hb,by simp;exact hb.1.2.2⟩));go_simp;exact kqq234.out):p:=h
theorem qq235(h:p:=by
 clear hsh hnew hsz cS;have hBT2:=Aa g0;have row0:=An.keep (ok':=fun b=>B<b) As row (Sh.of_fr (Fr.refl [] y3) (fun b hb hlt=>⟨hb.1,fun x=>by cases x⟩));obtain⟨⟨l0,l1,l2,l3,l4,l5,l6,l7⟩,_⟩:=Ac q0;obtain⟨⟨u0,u1,u2,u3,u4,u5,u6,u7⟩,z0,z1,z2,z3,z4,z5,z6,z7⟩:=Ac g0;clear row;exact kqq235.out):p:=h
theorem qq236(h:p:=by
 generalize x3.heap.size=T3 at *
 have hT4:=Aa q4;obtain⟨m0,m1,m2,m3,_⟩:=Ar q3;obtain⟨⟨u0,u1,u2,u3,u4,u5,u6,u7⟩,z0,z1,z2,z3,z4,z5,z6,z7⟩:=Ac q4;exact kqq236.out):p:=h
theorem qq237(h:p:=by
 try simp only[Act.put,sX]
 refine tk1 22 (oi:={ dst:=some 73,op:=_,type:=_,pos:=_,after:=_,guard:=_ }) (v:=?_) rfl rF ?_ ?_
 rotate_left
 ·exact qq27
 try simp only[Act.put,sX]
 refine tkc 23 (oi:={ dst:=some 74,op:=_,type:=_,pos:=_,after:=_,guard:=_ }) rfl (fun K hK=>?_);exact kqq237.out):p:=h
theorem qq238(h:p:=by
 go_simp
 (with_reducible refine(cS _ (hs7.fr0 (Fr.refl [] w7).drew)).out.mono ?_)
 rintro e x6 ⟨k1,v1,n1,s1,B4,n4,d4,B5,n5,d5',A2,c2,rfl,hT6,hst6⟩;have Q6:=hst6.2.1.keep (w:=w7.drew) p1 hnC;have M7:=(Ao Q6).1;have G6:=hst6.2.1.keep (w:=w7.drew) g7 hnT;have hTl:=Aa G6;have hCl:=Aa Q6;have HRW:=Hz (Ge (w1:=w7.drew) Br KR.out KS.out.1 hPw HF7.out.drew hst6);obtain⟨⟨u0,u1,u2,u3,u4,u5⟩,z0,z1,z2,z3,z4,z5⟩:=Bl G6;have n6:x6.heap.size≠T:=by omega
 go_simp;exact kqq238.out):p:=h
theorem qq239(h:p:=by
 have HX0:=Hz hk0;clear ih h5 e5 h6 e6 h7 e7 e8 hN hN' h1 h2 h3 h4 h5' h6' h7' h8' h9' h hb hX hfo hma hmm hk0 hmay;exact kqq239.out):p:=h
theorem qq240(h:p:=by
 have hfa:nm=[]∧n=0∧s=[]∧ls=[]∧args.length=2∧arms=[]:=by simpa [Ah,and_assoc] using hr
 obtain⟨rfl,rfl,rfl,rfl,t,rfl⟩:=hfa;clear hr;obtain⟨x,y,rfl⟩:=Kk t;clear t;have HV:=Hz hV;exact kqq240.out):p:=h
theorem qq241(h:p:=by
 refine(may_no [45] P g c ts st t HT.out HB0.out w1 h0 HE.out).mono ?_;rintro e x0 ⟨rfl,fm⟩;have kqq322:=@Hz _ @nn591;exact qq322):p:=h
theorem qq242(h:p:=by
 have HR:=Hz hR;clear hR;go_enter func75,ntmps75;go_wp2_with fail;have f0:Fr [] w (w.alloc (.cells #[vI k,vI a,vS nm,vI n,vS s,v5,.slice A6 args.length cc6] 123)):=(Fr.refl [] w).alloc _;have q0:=Ag w (.cells #[vI k,vI a,vS nm,vI n,vS s,v5,.slice A6 args.length cc6] 123)
 generalize w.alloc (.cells #[vI k,vI a,vS nm,vI n,vS s,v5,.slice A6 args.length cc6] 123)=w1 at *
 have hT1:=Aa q0
 generalize hT:w.heap.size=T at *
 exact kqq242.out):p:=h
theorem qq243(h:p:=by
 have HOK:=Hz hok;have HN:=Hz hN;have hdn:(0:Int)≤D:=by omega
 have hdx:D≤1099511627776:=by omega
 have HDQ:Hid (IntKind.i64.wrap (D+1)=D+1):=Hz (IntWalk.i64_in _ oM);have hm6:(args.length:Int)≤4611686018427387903:=by have:args.length≤Bk args:=Vw args;omega
 have hm7:(arms.length:Int)≤4611686018427387903:=by have:arms.length≤B1 arms:=Vv arms;omega
 clear ih h5 e5 h6 e6 h7 e7 e8 hs hok hD hN hsz;exact kqq243.out):p:=h
theorem qq244(h:p:=by
 subst hv9;have Q9:=(hgrow9.block T (Aa (Ae Q8 (.cells #[vI k2,vI a2,vS nm2,vI n2,vS s2,.slice A52 n52 c52,.slice A62 n62 c62,.slice A72 n72 c72] 27))) (fun e=>(ROWH.out.blk T e.symm).2.1 rfl)).trans (Ae Q8 (.cells #[vI k2,vI a2,vS nm2,vI n2,vS s2,.slice A52 n52 c52,.slice A62 n62 c62,.slice A72 n72 c72] 27));have hT9:=Aa Q9;obtain⟨⟨u0,u1,u2,u3,u4,u5,u6,u7⟩,z0,z1,z2,z3,z4,z5,z6,z7⟩:=Ac Q9;exact kqq244.out):p:=h
theorem qq245(h:p:=by
 generalize x3.heap.size=T3 at *
 have hT4:=Aa q4;obtain⟨m0,m1,m2,m3,_⟩:=Ar q3;obtain⟨⟨u0,u1,u2,u3,u4,u5,u6⟩,z0,z1,z2,z3,z4,z5,z6⟩:=Ao q4;exact kqq245.out):p:=h
theorem qq246(h:p:=by
 rw[hc] at ci;have HK0:=Hz (Jg hc);go_wp2_with fail;refine(ci _).out.mono ?_;rintro e y1 ⟨rfl,f1⟩;go_wp2_with fail;have f1:=fa.trans f1;refine(Et P g c ts st0 u hu HK0.out.1 HK0.out.2 y1 (h0.fr f1) HE.out).mono ?_;rintro e y2 ⟨rfl,h2,f2⟩;have f2:=(f1.mono (L':=[P]) (fun x hx=>by cases hx)).trans f2;have g0:=f2.keep g0 (by simpa using nB);have q0:=f2.keep q0 sO;have F2:=F.trans f2;exact kqq246.out):p:=h
theorem qq247(h:p:=by
 clear hb0 hq
 generalize wr.heap.size=T at *
 obtain⟨⟨l0,l1,l2,l3,l4,l5,l6,l7⟩,_⟩:=Ac (hb.at (Lm' ..));go_wp2_with fail;refine(cA _ _ _ hb (Ba HW.out)).out.mono ?_;rintro e w5 (⟨hok,rfl,hb⟩| ⟨hok,rfl,hf⟩)
 ·exact qq207
 ·exact qq180):p:=h
theorem qq248(h:p:=by
 go_simp;refine(cE _ (h3.fr (Fr.refl [] y3).drew)).out.mono ?_;rintro e y4 ⟨k2,a2,nm2,n2,s2,ls2,args2,arms2,A52,n52,c52,A62,n62,c62,A72,n72,c72,st2,rfl,hx2,hr2,hst2,f4⟩;have Q4:=f4.keep (w:=y3.drew) q0 sO;have Q5:=f4.keep (w:=y3.drew) q5 sO;have hT44:=Aa Q4;have hT54:=Aa Q5;have M5:=Ar Q5;obtain⟨⟨v0,v1,v2,v3,v4,v5,v6,v7⟩,_⟩:=Ac Q4;go_simp;exact kqq248.out):p:=h
theorem qq249(h:p:=by
 clear l0 l1 l2 l3 l4 l5 l6 l7;obtain⟨⟨l0,l1,l2,l3,l4,l5,l6,l7⟩,_⟩:=Ac (hb.at (Lm' ..));go_wp2_with fail;exact kqq249.out):p:=h
theorem qq250(h:p:=by
 rw[hv];go_enter func162,ntmps162;exact qq104):p:=h
theorem qq251(h:p:=by
 have nTR:¬ w.heap.size+1+1=w.heap.size+1:=by omega
 have nRT:¬ w.heap.size+1=w.heap.size+1+1:=by omega
 exact kqq251.out):p:=h
theorem qq252(h:p:=by
 have hBlt:=Aa g0;have hTlt:=Aa q0;obtain⟨⟨l0,l1,l2,l3,l4,l5,l6⟩,_⟩:=Ao q0;obtain⟨⟨u0_,u1,u2,u3,u4,u5,u6⟩,z0,z1,z2,z3,z4,z5,z6⟩:=Ao g0;exact kqq252.out):p:=h
theorem qq253(h:p:=by
 generalize hTT1:x1.heap.size=T9 at *
 have g0:=fb1.keep g0 nE;have h2:=hst2.fr fb1;have F:=F.trans fb1;have hx1:=hx1.keep (ok':=fun b=>B<b∧b<x2.heap.size) (Sh.of_fr fb1 (fun b hb hlt=>⟨⟨oM,by have:=fb1.size;omega⟩,fun x=>by cases x⟩));clear fb1 hst2;refine(Cr P g c ts st2 t HT.out x2 h2 HE.out).mono ?_;exact kqq253.out):p:=h
theorem qq254(h:p:=by
 have hh:=HH.out;have hr:=HR.out;simp[Cc] at hh;subst hh;obtain⟨rfl,rfl,rfl,rfl,rfl⟩:n=0∧s=[]∧ls=[]∧args=[]∧arms=[]:=by simpa [Ah,and_assoc] using hr
 obtain⟨⟨hs1,hs2,hs3,hs4⟩,hs5,hs6⟩:=HS.out;clear HI HH HR hr HS;have HW:Hid (l++(nm++[])=M):=Hz (by rw[← HM.out];simp[txE,E4,Bj,Dp]);exact kqq254.out):p:=h
theorem qq255(h:p:=by
 simp[results,Tryz.f20,go_sem,g0,g1,g2,g3,g4,g5,g6,g7]):p:=h
theorem qq256(h:p:=by
 have wv:wrap32 ((s[0].toNat:Nat):Int)=((s[0].toNat:Nat):Int):=by have:=s[0].toNat_lt;unfold wrap32;omega
 exact kqq256.out):p:=h
theorem qq257(h:p:=by
 have c0:=(((((Fr.refl [] w).alloc (.cells #[vI k,vI a,vS nm,vI n,vS s,.slice A5 ls.length c5,.slice (some ⟨g,o,none⟩) args.length c6,.slice A7 arms.length c7] 27)).alloc Dj).alloc (.cells #[vI 0,vI a,vI 0,vI 0,vE,vZ,vZ,vZ] 34)).cell (p:=⟨P,0,none⟩) hP (fun x=>by cases x)).trans m0;exact kqq257.out):p:=h
theorem qq258(h:p:=by
 have g0:=f5.keep g0 (by simpa using nB);have q1:=f5.keep q1 sO;have q4:=f5.keep q4 sO;have hs5:=f5.size;have F5:=F4.trans f5;have hx1:=hx1.keep (ok':=fun b=>B<b∧¬ b=T3∧¬ b=T4∧¬ b=P∧b<x5.heap.size) (Sh.of_fr f5 (fun b hb hlt=>⟨⟨hb.1,hb.2.1,hb.2.2,oM,oM⟩,by simp;omega⟩));exact kqq258.out):p:=h
theorem qq259(h:p:=by
 rintro e x5 ⟨rfl,h5,f5⟩;have g0:=f5.keep g0 (by simpa using nB);have q3:=f5.keep q3 sO;have hs5:=f5.size;have F5:Fr [P] w x5:=(f4.mono (fun x hx=>by cases hx)).trans f5;exact kqq259.out):p:=h
theorem qq260(h:p:=by
 go_simp;refine hK _ _ ?_;clear hK K;refine wpAny_ready (rs:=[1]) kR sM ?_;refine(AllReady.cons rfl (fun K hK=>?_) AllReady.nil);exact qq106):p:=h
theorem qq261(h:p:=by
 clear h5 e5 h6 e6 h7 e7 e8 hN hs5 hl hsz ih;have hnz:(⟨nm.toArray⟩:ByteArray).size≤65536:=by simpa [ByteArray.size] using hs1
 have cN:=fun w hE=>Hz (Fx ⟨nm.toArray⟩ oM w hE)
 rw[(show(⟨nm.toArray⟩:ByteArray).data.toList=nm from rfl)] at cN;exact kqq261.out):p:=h
theorem qq262(h:p:=by
 go_wp2_with fail;refine(hb.add1 [40,41] _ (by have:=Bb HW.out HL.out;omega)).mono ?_;rintro e w5 ⟨rfl,hb⟩;exact qq117):p:=h
theorem qq263(h:p:=by
 go_wp2_with fail;refine(hb.add1 (Dr s) _ (by have:=Bb HW.out HL.out;omega)).mono ?_;rintro e w5 ⟨rfl,hb⟩;exact qq117):p:=h
theorem qq264(h:p:=by
 go_wp2_with fail;refine(hb.add1 (Ir n) _ (by have:=Bb HW.out HL.out;omega)).mono ?_;rintro e w5 ⟨rfl,hb⟩;exact qq117):p:=h
theorem qq265(h:p:=by
 have hh:=HH.out;have hr:=HR.out;simp[Cc] at hh;subst hh;obtain⟨rfl,rfl,rfl,rfl,rfl⟩:nm=[]∧s=[]∧ls=[]∧args=[]∧arms=[]:=by simpa [Ah,and_assoc] using hr
 obtain⟨⟨hs1,hs2,hs3,hs4⟩,hs5,hs6⟩:=HS.out;clear HI HH HR hr HS;exact kqq265.out):p:=h
theorem qq266(h:p:=by
 go_wp2_with fail;refine(Cq _ _).mono ?_;rintro e x1 ⟨rfl,rfl⟩;go_wp2_with fail;refine(Da _ _).mono ?_;rintro e x1 ⟨rfl,rfl⟩;go_wp2_with fail;exact kqq266.out):p:=h
theorem qq267(h:p:=by
 have h2:=h _ _ _ _ _ ht h1
 cases hok:st'.ok with
 | false=>rfl
 | true=>have:=hk.grows.2 hok;rw[h2] at this;cases this):p:=h
theorem qq268(h:p:=by
 generalize hTT1:x1.heap.size=T3 at *
 have g0:=fb1.keep g0 nE;have h2:=hst1.fr fb1;have F2:=F1.trans0 fb1;have hx1:=hx1.keep (ok':=fun b=>B<b∧¬ b=T3∧¬ b=P) (Sh.of_fr fb1 (fun b hb hlt=>⟨⟨oM,oM,oM⟩,fun x=>by cases x⟩));exact kqq268.out):p:=h
theorem qq269(h:p:=by
 have rowS:=An.keep (ok':=fun b=>(B<b∧¬ b=T∧¬ b=P)∧(Value.slice (some ⟨g8,0,none⟩) (args.length+1) cp8).ownBlock≠some b) Cg rowS (Sh.of_fr fm (fun b hb hlt=>⟨hb,by simp;exact hb.1.2.2⟩));clear fm;go_wp2_with fail;exact kqq269.out):p:=h
theorem qq270(h:p:=by
 go_wp2_with fail;go_ret;exact qq181):p:=h
theorem qq271(h:p:=by
 unfold st7 at HG HF HP;obtain⟨⟨u0,u1,u2,u3,u4,u5,u6⟩,z0,z1,z2,z3,z4,z5,z6⟩:=Ao g0;go_wp2_with fail;exact kqq271.out):p:=h
theorem qq272(h:p:=by
 simp[World.setCell,Array.getElem?_modify,h]):p:=h
theorem qq273(h:p:=by
 exact⟨rfl,h2,(f1.mono (fun x hx=>by cases hx)).trans f2⟩):p:=h
theorem qq274(h:p:=by
 have rowS:=An.keep (ok':=fun b=>(B<b∧¬ b=T∧¬ b=P)∧(Value.slice (some ⟨g8,0,none⟩) (args.length+1) cp8).ownBlock≠some b) Cg rowS (Sh.of_fr fm (fun b hb hlt=>⟨hb,fun x=>by cases x⟩));clear fm;go_wp2_with fail;exact kqq274.out):p:=h
theorem qq275(h:p:=by
 obtain⟨r,hr⟩:=tmEs_l args none (S.bind nm);obtain⟨q,hq⟩:=Gd S nm;exact Qo (r:=q++r) (by rw[hr,hq,Ls'])):p:=h
theorem qq276(h:p:=by
 simp only[Except.ok.injEq,Prod.mk.injEq] at h;have:=Sj (r:=r) (show Dh c=true by unfold Dh;rw[hs];simp);omega):p:=h
theorem qq277(h:p:=by
 have hik:i<k:=by have:=(List.getElem?_eq_some_iff.1 hx).1;rw[List.length_take] at this;omega
 rw[List.getElem?_take_of_lt hik] at hx;obtain⟨g',o',e',_,hg',_,_,hc'⟩:=H5.out.row (i:=i) oM;cases e';rw[E5.out i x hx] at hc';exact kqq277.out):p:=h
theorem qq278(h:p:=by
 exact Kb fun s hs=>Dn ⟨trivial,fun x hx=>Dn ⟨trivial,fun y hy=>L2 hs ⟨hx,hy,trivial⟩ trivial⟩⟩):p:=h
theorem qq279(h:p:=by
 obtain⟨r,rfl⟩:=hp;rw[Ls',List.find?_append,List.find?_eq_none.2 (fun y hy=>by simp[hn y hy])];simp[hx]):p:=h
theorem qq280(h:p:=by
 show Bh _=true;simp[Bh,Ax,Bd,D3,Cc,Ah,Bq]):p:=h
theorem qq281(h:p:=by
 have hmf:∀ (fn:Fn) (first cap:Array Value) (w:World),(Instr.makeFunc fn first cap).run prog w = .ok (.func fn first cap) w:=fun _ _ _ _=>rfl
 exact kqq281.out):p:=h
theorem qq282(h:p:=by
 exact⟨fun e=>by simp only at e;omega,fun e=>by simp only at e;omega,fun e=>by simp only at e;omega⟩):p:=h
theorem qq283(h:p:=by
 rintro e w1 ⟨rfl,⟨v,hbk,hown,ho⟩,hf1⟩;have HO:=Hz ho;clear ho;have d0:w1.cell? ⟨b,0,none⟩=some (.pointer (some ⟨b,0,none⟩)):=by rw[Ab hbk];rfl
 have d1:w1.cell? ⟨b,1,none⟩=some v:=by rw[Ab hbk];rfl
 exact kqq283.out):p:=h
theorem qq284(h:p:=by
 have t2:(k==2)=false:=bN.2 oM;have t4:(k==4)=false:=bN.2 oM;have t3:(k==3)=false:=bN.2 oM;have t6:(k==6)=false:=bN.2 oM;have t15:(k==15)=false:=bN.2 oM;have t13:(k==13)=false:=bN.2 oM;have t14:(k==14)=false:=bN.2 oM;exact kqq284.out):p:=h
theorem qq285(h:p:=by
 have hR:=HN.out (fun j hj=>HK.out j hj oM);subst hR;go_wp2_with fail;go_ret;exact⟨-1,rfl,dC,rfl⟩):p:=h
theorem qq286(h:p:=by
 exact⟨_,_,_,hv⟩):p:=h
theorem qq287(h:p:=by
 simp[results,Tryz.f190,go_sem,d0,d1,d2,d3,d4,d5,d6,d7]):p:=h
theorem qq288(h:p:=by
 exact⟨rfl,rfl⟩):p:=h
theorem qq289(h:p:=by
 simp[results,Tryz.f187,go_sem,d0,d1,d2,d3,d4,d5,d6,d7]):p:=h
theorem qq290(h:p:=by
 rw[e];exact⟨rfl,hs3,f4⟩):p:=h
theorem qq291(h:p:=by
 have h1:s.data.toList=s[0]::s.data.toList.drop 1:=by
  have:=Dz s 0 hp;simpa using this
 rw[h1];rfl):p:=h
theorem qq292(h:p:=by
 go_wp2_with fail;go_ret;rw[← hlen] at HR;exact⟨A9,c9,cs,A',c',by rw[hlen];rfl,HR.out,HS.out⟩):p:=h
theorem qq293(h:p:=by
 have h2:=ih2 (b:=b+2 *(st1.i-st.i)) (hw x _ h1) hok;have h3:=h.grows.1;have h4:=hk.grows.1;omega):p:=h
theorem qq294(h:p:=by
 have hml:m.length≤70368744177664:=by have:=Bb hw HL.out;omega
 clear hx hy hw ho hc hc5;have q1:(0:Int)≤(i:Int):=by omega
 have q2:(i:Int)<(args.length:Int):=by omega
 have q3:(i:Int)<(ls.length:Int):=by omega
 exact kqq294.out):p:=h
theorem qq295(h:p:=by
 clear hq HX HN HS HX1 HK
 generalize l[k]=y at *
 go_wp2_with fail;go_ret;exact⟨k,rfl,sM,rfl⟩):p:=h
theorem qq296(h:p:=by
 simp[results,Tryz.f108,go_sem,d0,d1,d2,d3,d4,d5,d6]):p:=h
theorem qq297(h:p:=by
 obtain⟨y,hy⟩:∃ y,args[i]?=some y:=⟨args[i],Lg' hlt⟩
 have HY:=Hz hy;clear hy;have hyx:=E6.out i y HY.out;exact kqq297.out):p:=h
theorem qq298(h:p:=by
 have g:=f1.keep h0 (fun h=>by cases h);obtain⟨c0,c1,c2,c3,z0,z1,z2,z3⟩:=Ar g;have ff:=f0.trans f1;exact kqq298.out):p:=h
theorem qq299(h:p:=by
 go_simp;refine(cF _).out.mono ?_;rintro e w2 ⟨rfl,f2⟩;have q1:=f2.keep (show(World.drew _).heap[_]?=_ from q0) nE;obtain⟨⟨l0,l1,l2,l3,l4,l5,l6,l7⟩,_⟩:=Ac q1;go_simp;refine hK _ _ ?_;clear hK K;exact kqq299.out):p:=h
theorem qq300(h:p:=by
 exact(((Gr.bind S nm).trans (Hg args none _)).trans (Gr.cut _ _)).mono (by simp <;> omega)):p:=h
theorem qq301(h:p:=by
 refine(may_no [40] P g c ts st t HT.out HB3.out x2 h0 HE.out).mono ?_;rintro e x3 ⟨rfl,fm⟩;have kqq322:=@Hz _ @nn589;exact qq322):p:=h
theorem qq302(h:p:=by
 have:=h ⟨c.toNat,c.toNat_lt⟩;simpa using this):p:=h
theorem qq303(h:p:=by
 rcases h.row.2 with⟨hv,hn⟩| ⟨g,cap,cur,hv,_,_,hnc,_⟩
 ·omega
 ·cases hv;exact hnc):p:=h
theorem qq304(h:p:=by
 have q3:=Ag x3 (.cells #[vI t.k,vI t.at',.string ⟨t.text.toArray⟩,vI t.n] 52);have fb4:Fr [] x3 (x3.alloc (.cells #[vI t.k,vI t.at',.string ⟨t.text.toArray⟩,vI t.n] 52)):=(Fr.refl [] x3).alloc _;exact kqq304.out):p:=h
theorem qq305(h:p:=by
 obtain⟨h1,h2,h3⟩:=N6 ha h.one hp.1;exact⟨by simp only[Ck.one] at h1;omega,h2,h3⟩):p:=h
theorem qq306(h:p:=by
 clear hq hu hr;go_wp2_with fail;go_ret2;exact⟨by rw[HT.out,HE.out];rfl,hf.trans hf2⟩):p:=h
theorem qq307(h:p:=by
 rw[hr] at hr';cases hr';simp only[Value.ownBlock,Option.some.injEq] at hg';exact .inr oM):p:=h
theorem qq308(h:p:=by
 simp[Instr.field,asAgg,part,go_sem]):p:=h
theorem qq309(h:p:=by
 have HPRE:=Hz hpre;clear hpre g0 g1 g2 f0 z0 hX m0 m1 m2 m3 y0 y1 y2 y3 t2 t7 t8 t9 HK):p:=h
theorem qq310(h:p:=by
 unfold isB O8 at h;simp only[Ba',Bool.or_eq_true,beq_iff_eq] at h;exact⟨h.1.1,oM⟩):p:=h
theorem qq311(h:p:=by
 go_wp2_with fail;refine(must_yes _).mono ?_;rintro e w6 ⟨rfl,rfl⟩;go_wp2_with fail;refine(hb.add1 nm _ (by have:=Bb HW.out HL.out;omega)).mono ?_;rintro e w5 ⟨rfl,hb⟩;go_wp2_with fail
 go_end0
 exact kqq311.out):p:=h
theorem qq312(h:p:=by
 have HS:l[k]≠x→Hid (∀ j (hj:j<l.length),j<k+1→l[j]≠x):=fun hne=>Hz (fun j hj h=>by
  rcases Nat.lt_or_ge j k with h1|h1
  ·exact HK.out j hj h1
  ·have:j=k:=by omega
   subst this;exact hne)
 exact kqq312.out):p:=h
theorem qq313(h:p:=by
 simp only[Ls',Lp',List.nil_append];rw[Fd,Xj h (Cz _),Bc,h0.sep (I9 _),Fe];exact qq62):p:=h
theorem qq314(h:p:=by
 have cF:=fun W=>Hz (Me k a nm n s A5 A6 A7 ls.length args.length arms.length c5 c6 c7 h hh W)
 have cR:=fun W=>Hz (Pl h k a nm n s A5 A6 A7 ls.length args.length arms.length c5 c6 c7 W)
 rw[hr] at cR;exact kqq314.out):p:=h
theorem qq315(h:p:=by
 induction l with
 | nil=>exact⟨hx,trivial⟩
 | cons y l ih=>exact⟨h.1,ih h.2⟩):p:=h
theorem qq316(h:p:=by
 have:l=[]:=List.eq_nil_of_length_eq_zero oM;subst this;cases f <;> cases g <;> rfl):p:=h
theorem qq317(h:p:=by
 go_simp;refine((cS _ (h0.fr (Fr.refl [] y2).drew)).out).mono ?_;rintro e x8 ⟨k3,a3,nm3,n3,s3,ls3,args3,arms3,A53,n53,c53,A63,n63,c63,A73,n73,c73,st7,rfl,hx3,hr3,hst7,f8⟩;have hst:=hst7;have Q8:=f8.keep (w:=y2.drew) q0 sO;have hT8:=Aa Q8;have ROW9:=An.keep (w':=x8.alloc (.cells #[vI k3,vI a3,vS nm3,vI n3,vS s3,.slice A53 n53 c53,.slice A63 n63 c63,.slice A73 n73 c73] 27)) (ok':=fun b=>B<b∧¬ b=T∧¬ b=P) As ROWH.out (Sh.of_fr (((Fr.refl [P] y2).drew.trans f8).alloc _) (fun b hb hlt=>⟨hb,by simp;exact hb.2.2⟩));go_simp;exact kqq317.out):p:=h
theorem qq318(h:p:=by
 have hPB:P<B:=by omega
 have hgB:g<B:=by omega
 have hBw:w.heap.size≤B:=by omega
 have hBT3:B<T3:=by have:=(f0.trans f3).size;have:=Aa g0;omega
 clear f0 f3 fb4;refine(may_yes [108,101,116] P g c ts st t HT.out HB0.out x4 h4 HE.out).mono ?_;have kqq348:=@Hz _ @nn666;exact qq348):p:=h
theorem qq319(h:p:=by
 refine Af (i:=0) (v:=?v1001) rfl kR kR kR (fun _ _ _ h=>h) (Or.inl ⟨by rfl,?hy1001⟩) aS ?hr1001
 case hy1001 =>
  exact qq9
 (try simp only[Act.put,sX])
 refine Af (i:=1) (v:=?v1002) rfl kR kR kR (fun _ _ _ h=>h) (Or.inl ⟨by rfl,?hy1002⟩) aS ?hr1002
 case hy1002 =>
  exact qq9
 (try simp only[Act.put,sX])
 refine Af (i:=2) (v:=?v1003) rfl kR kR kR (fun _ _ _ h=>h) (Or.inl ⟨by rfl,?hy1003⟩) aS ?hr1003
 case hy1003 =>
  exact qq9
 (try simp only[Act.put,sX])
 exact kqq319.out):p:=h
theorem qq320(h:p:=by
 have kqq349:=@Hz _ @nn670;exact qq349):p:=h
theorem qq321(h:p:=by
 go_enter func20,ntmps20;go_wp2_with fail
 generalize ((w.alloc (.cells #[vI k,vI a,vS nm,vI n,vS s,.slice A5 ls.length c5,.slice (some ⟨g,o,none⟩) args.length c6,.slice A7 arms.length c7] 27)).alloc Dj).alloc (.cells #[vI 0,vI a,vI 0,vI 0,vE,vZ,vZ,vZ] 34)=x5 at *
 exact kqq321.out):p:=h
theorem qq322(h:p:=by
 have g0:=fm.keep g0 nE;have q0:=fm.keep q0 nE;have F:=F.trans0 fm;have h0:=h0.fr fm;clear fm;go_wp2_with fail;exact kqq322.out):p:=h
theorem qq323(h:p:=by
 have hx2:=hx2.keep (ok':=fun b=>B<b) (Sh.of_fr (Fr.refl [] x6) (fun b hb hlt=>⟨by have:x5.heap.size≤b:=hb;omega,fun x=>by cases x⟩));exact kqq323.out):p:=h
theorem qq324(h:p:=by
 have g0:=fs.keep g0 sO;have h6:=h5.frL fs sO sO;have F6:=F5.step fs (fun x hx => .inr (by simp at hx;omega));clear m0 m1 m2 m3 u0 u1 u2 u3 u4 u5 u6 u7 z0 z1 z2 z3 z4 z5 z6 z7 q4;exact kqq324.out):p:=h
theorem qq325(h:p:=by
 clear hsh hnew;clear ROWH ROW9 Q8 Q9 hown9 hgrow9 hfp9 f8 hst hT8 hT9 hTwr
 generalize w9.setCell ⟨T,5,none⟩ (.slice (some ⟨g9,0,none⟩) (ls.length+1) cp9)=w1_ at *
 clear X6 hsz;go_wp2_with fail;obtain⟨u1,hu1⟩:=Bn h0.inb;refine(Cp [61] P g c ts (El u st0) u1 hu1 w1_ h0 HE.out).mono ?_;rintro e w2_ ⟨rfl,h0,fm⟩;have g0:=fm.keep g0 sO;have q0:=fm.keep q0 sO;have F:=F.trans fm;exact kqq325.out):p:=h
theorem qq326(h:p:=by
 have t10:(k==10)=false:=by simp;omega
 have t21:(k==21)=false:=by simp;omega
 have t22:(k==22)=false:=by simp;omega
 have t12:(k==12)=false:=by simp;omega
 exact kqq326.out):p:=h
theorem qq327(h:p:=by
 have HOK:=Hz hok;have HN:=Hz hN;have HSZ:=Hz hsz;have hdn:(0:Int)≤D:=by omega
 have hdx:D≤1099511627776:=by omega
 have HDQ:Hid (IntKind.i64.wrap (D+1)=D+1):=Hz (IntWalk.i64_in _ oM);have hm6:(args.length:Int)≤4611686018427387903:=by have:args.length≤E2 args:=Vx args;omega
 clear ih h5 e5 h6 e6 hs hok hD hN hsz hx0;exact kqq327.out):p:=h
theorem qq328(h:p:=by
 try simp only[Act.put,sX]
 refine tk1 10 (oi:={ dst:=some 61,op:=_,type:=_,pos:=_,after:=_,guard:=_ }) (v:=?_) rfl rF ?_ ?_
 rotate_left
 ·exact qq27
 try simp only[Act.put,sX]
 refine tk1 11 (oi:={ dst:=some 62,op:=_,type:=_,pos:=_,after:=_,guard:=_ }) (v:=?_) rfl rF ?_ ?_
 rotate_left
 ·exact qq27
 try simp only[Act.put,sX]
 exact kqq328.out):p:=h
theorem qq329(h:p:=by
 simp[results,Tryz.f20,go_sem,g0,g1,g2,g3,g4,g5,g6,g7,hRz]):p:=h
theorem qq330(h:p:=by
 refine Af (i:=0) (v:=?v1) rfl kR kR kR (fun _ _ _ h=>h) (Or.inl ⟨by rfl,?hy1⟩) aS ?hr1
 case hy1 =>
  exact qq9
 (try simp only[Act.put,sX])
 refine Af (i:=1) (v:=?v2) rfl kR kR kR (fun _ _ _ h=>h) (Or.inl ⟨by rfl,?hy2⟩) aS ?hr2
 case hy2 =>
  exact qq9
 (try simp only[Act.put,sX])
 exact kqq330.out):p:=h
theorem qq331(h:p:=by
 rintro e y9 ⟨rfl,fm⟩;have g0:=fm.keep g0 nE;have F:=F.trans0 fm;have h2:=h2.fr fm;have q1:=fm.keep q1 nE;have hx1:=hx1.keep (ok':=fun b=>B<b∧b<y9.heap.size) (Sh.of_fr fm (fun b hb hlt=>⟨⟨hb.1,by have:=fm.size;omega⟩,fun x=>by cases x⟩));clear fm;exact kqq331.out):p:=h
theorem qq332(h:p:=by
 clear hK K;clear l0 l1 l2 l3 l4 l5 l6 l7 u0 u1 u2 u3 u4 u5 u6 u7 z0 z1 z2 z3 z4 z5 z6 z7;have f8:Fr [P] y2 x8:=((Fr.refl [P] y2).drew).trans f8;have row:=ROWH.out;exact kqq332.out):p:=h
theorem qq333(h:p:=by
 rintro e x4 ⟨rfl,f5⟩;go_wp2_with fail;have f5:=fa.trans f5;have g0:=f5.keep g0 nE;have q3:=f5.keep q3 nE;have h4:=h4.fr f5;have f4:=f4.trans f5;clear f5 fa ci;exact kqq333.out):p:=h
theorem qq334(h:p:=by
 generalize (tmE (.mk p0 pa0 pn0 pi0 ps0 pl0 pr0 pm0) S).1=X at *
 generalize (tmE (.mk p0 pa0 pn0 pi0 ps0 pl0 pr0 pm0) S).2=S1 at *
 have cB:=fun W A2 c2 (hW:Dg w0 P S1 A2 c2 W)=>Hz (Ju hW [95] (by have:=hSB2.2.2;omega) hSB2.1 (by have:=hSB2.2.1;omega))
 exact kqq334.out):p:=h
theorem qq335(h:p:=by
 clear hK5 K5
 (try simp only[Act.put,sX])
 refine Af (i:=6) (v:=?_) rfl kR kR kR (fun _ _ _ h=>h) (Or.inl ⟨by rfl,?_⟩) aS ?_
 rotate_left
 ·exact qq9
 (try simp only[Act.put,sX])
 refine wpAnyH_done kR ?_ _;refine Bi rfl ?_;go_simp;refine hK.out _ _ ?_;exact kqq335.out):p:=h
theorem qq336(h:p:=by
 have hBlt:=Aa g0;have hTlt:=Aa q0;obtain⟨⟨l0,l1,l2,l3,l4,l5,l6,l7⟩,_⟩:=Ac q0;obtain⟨⟨u0_,u1,u2,u3,u4,u5,u6,u7⟩,z0,z1,z2,z3,z4,z5,z6,z7⟩:=Ac g0;exact kqq336.out):p:=h
theorem qq337(h:p:=by
 have hBT:=Aa g0;have hPT:=Aa h3.blk;have g0:=fbb.keep g0 nE;have h5:=h3.fr fbb;have F5:=F3.trans0 fbb;exact kqq337.out):p:=h
theorem qq338(h:p:=by
 obtain⟨g,o,hA,hg,hc⟩:=H6.out.elem hb.frame (i:=0) sM;cases hA;simp only[Nat.zero_mul,Nat.add_zero,Nat.one_mul] at hc;obtain⟨k2,a2,nm2,n2,s2,ls2,args2,arms2,A52,c52,A62,c62,A72,c72,rfl,hx2,x0,x1,x2,x3,x4,x5,x6,x7⟩:=E6.out.told hc;exact kqq338.out):p:=h
theorem qq339(h:p:=by
 generalize (tmE (.mk p1 pa1 pn1 pi1 ps1 pl1 pr1 pm1) S2).1=Y at *
 generalize (tmE (.mk p1 pa1 pn1 pi1 ps1 pl1 pr1 pm1) S2).2.cut S.l.length=S3 at *
 clear hmx0 hwx0 hx0 hmx1 hwx1 hx1 hsz hgA hlA hSB1 hSB3 hr hml hszE HNS hsz0;exact kqq339.out):p:=h
theorem qq340(h:p:=by
 have H:=Hz h;have hP:=Aa h.blk;have hgl:=h.lt;have hin:=h.inb;have HN:=Hz hm;have HE:=Hz hE;clear h hm hE;exact kqq340.out):p:=h
theorem qq341(h:p:=by
 have hsz:=HNS.out;have cT:=fun W hW=>Hz (Ke N IH.out args A6 c6 d6 w0 W ok P S A c hsz.1 HMA.out HW6.out H6.out E6.out hW (HB.out.mono oM) b4)
 exact kqq341.out):p:=h
theorem qq342(h:p:=by
 clear hal;have hmx0:=HMA.out 0 _ hy0;have hwx0:=HW6.out 0 _ hy0;obtain⟨g,o,p0,pa0,pn0,pi0,ps0,pl0,pr0,pm0,P50,q50,P60,q60,P70,q70,rfl,hg,rfl,hx0,hc0⟩:=I0 H6.out E6.out (i:=0) hy0;have HC0:=Hz hc0;clear hc0 hy0;exact kqq342.out):p:=h
theorem qq343(h:p:=by
 go_wp2_with fail
 go_end0
 exact Sd.done (by rw[← HP.out,hn,hok];rfl) (Dc (Ba HW2.out)) hb.drop):p:=h
theorem qq344(h:p:=by
 have hBT:=Aa g0;have hPT:=Aa h3.blk;have g0:=fbb.keep g0 nE;have h5:=h3.fr fbb;have F5:=F3.trans fbb;exact kqq344.out):p:=h
theorem qq345(h:p:=by
 refine(Cr P g c ts ⟨st.i+1,st.ok⟩ u HU.out y1n h0 HE.out).mono ?_;rintro e y2 ⟨rfl,fm⟩;have g0:=fm.keep g0 nE;have q0:=fm.keep q0 nE;have F:=F.trans0 fm;have h0:=h0.fr fm;clear fm;have r0:=Od;exact kqq345.out):p:=h
theorem qq346(h:p:=by
 have e0:w2.cell? ⟨b,0,none⟩=some (.pointer (some ⟨b,0,none⟩)):=by rw[Ab hb2];rfl
 have e1:w2.cell? ⟨b,1,none⟩=some v:=by rw[Ab hb2];rfl
 have f1:w2.frozen? ⟨b,1,none⟩=false:=Ap hb2 1;exact kqq346.out):p:=h
theorem qq347(h:p:=by
 refine Av rF _ _ 24 rF 27 i0 _ 8 128 underlying24 HI.out HZ0.out HZ1.out HZ2.out rfl dC (vZ) 0 (Co (fun _=>[]) 0) rF ROW9.own ⟨x8.heap.size,0,none⟩ 1 1 [vI k1,vI a1,vS nm1,vI n1,vS s1,.slice A51 n51 c51,.slice A61 n61 c61,.slice A71 n71 c71] rF rfl (World.news_of_block (Ag x8 _)) (by simp[Value.oneCell']) dC dC ?_;intro v9 w9 hown9 hgrow9 hfp9;obtain⟨g9,cp9,hv9⟩:∃ g cap,v9 = .slice (some ⟨g,0,none⟩) (1) cap:=Cd hown9
 subst hv9;have Q9:=(hgrow9.block T (Aa (Ae Q8 (.cells #[vI k1,vI a1,vS nm1,vI n1,vS s1,.slice A51 n51 c51,.slice A61 n61 c61,.slice A71 n71 c71] 27))) (fun e=>(ROWH.out.blk T e.symm).2.1 rfl)).trans (Ae Q8 (.cells #[vI k1,vI a1,vS nm1,vI n1,vS s1,.slice A51 n51 c51,.slice A61 n61 c61,.slice A71 n71 c71] 27));have hT9:=Aa Q9;obtain⟨⟨u0,u1,u2,u3,u4,u5,u6,u7⟩,z0,z1,z2,z3,z4,z5,z6,z7⟩:=Ac Q9;exact kqq347.out):p:=h
theorem qq348(h:p:=by
 rintro e x5 ⟨rfl,h0,f5⟩;have g0:=f5.keep g0 (by simpa using nB);have q3:=f5.keep q3 sO;have F:Fr [P] w x5:=(f4.mono (fun x hx=>by cases hx)).trans f5;have hs5:=Aa g0;clear f4 f5 h4 hT4 hs3;exact kqq348.out):p:=h
theorem qq349(h:p:=by
 have g0:=fs.keep g0 sO;have h0:=h0.frL fs sO sO;have F:=F.step fs (fun x hx => .inr (by simp at hx;omega));exact kqq349.out):p:=h
theorem qq350(h:p:=by
 rw[hok] at p2;have HOK:=Hz hok;clear hok;have HR1:=HR;clear HR;obtain⟨u,hu⟩:=Bn h0.inb;have HPL:=Hz h0.pl;have HLE0:=Hz hle0;have HAL:=Hz hal;have HACC:=Hz hacc;have HLEN:Hid (ls.length≤4097):=Hz (by have h1:=hacc;simp at h1;have h2:=HE.out.1;have h3:=h0.inb;omega);clear hacc hle0 hal;have X6:∀ gg,v6.ownBlock=some gg→gg<wr.heap.size:=fun gg hg=>rowE.own_lt gg hg
 clear p0 p1;exact kqq350.out):p:=h
theorem qq351(h:p:=by
 have row:=An.lit As (T:=27) (size:=8) (ok:=fun b=>B<b∧¬ b=T∧¬ b=P) hx1 rfl (by rw[hss];exact⟨oM,oM,oM⟩);rw[hss] at row;have HQ:=Hz (Ae q1 (.cells #[vI k1,vI a1,vS nm1,vI n1,vS s1,.slice A51 n51 c51,.slice A61 n61 c61,.slice A71 n71 c71] 27));have HG1:=Hz (Ae g1 (.cells #[vI k1,vI a1,vS nm1,vI n1,vS s1,.slice A51 n51 c51,.slice A61 n61 c61,.slice A71 n71 c71] 27));exact kqq351.out):p:=h
theorem qq352(h:p:=by
 refine hK5.out _ _ ?hS1015 (fun hHeld=>?hq1015)
 case hS1015=>exact u6
 clear hK5 K5
 (try simp only[Act.put,sX])
 refine Af (i:=6) (v:=?v1016) rfl kR kR kR (fun _ _ _ h=>h) (Or.inl ⟨by rfl,?hy1016⟩) aS ?hr1016
 case hy1016 =>
  exact qq9
 (try simp only[Act.put,sX])
 refine wpAnyH_done kR ?hr1017 _;refine Bi rfl ?hq1017;go_simp;refine hK.out _ _ ?hs1017;exact kqq352.out):p:=h
theorem qq353(h:p:=by
 obtain⟨⟨l0,l1,l2,l3,l4,l5,l6,l7⟩,f0,f1,f2,f3,f4,f5,f6,f7⟩:=Ac T1.t;obtain⟨⟨u0,u1,u2,u3,u4,u5,u6,u7⟩,z0,z1,z2,z3,z4,z5,z6,z7⟩:=Ac T1.r;exact kqq353.out):p:=h
theorem qq354(h:p:=by
 have t1:(k==1)=false:=by simp;omega
 have t7:(k==7)=false:=by simp;omega
 have t9:(k==9)=false:=by simp;omega
 have t20:(k==20)=false:=by simp;omega
 exact kqq354.out):p:=h
theorem qq355(h:p:=by
 have g0:=fm.keep g0 sO;have q0:=fm.keep q0 sO;have F:=F.trans fm;clear fm;obtain⟨⟨m0,m1,m2,m3,m4,m5,m6⟩,j0,j1,j2,j3,j4,j5,j6⟩:=Ao q0;exact kqq355.out):p:=h
theorem qq356(h:p:=by
 have cS:=fun W hW=>Hz (IH.out.post P g c ⟨st.i+1,st.ok⟩ W hW (by have:=HN.out;have:=h5.inb;simp only at this ⊢;omega))
 obtain⟨m0,m1,m2,m3,_⟩:=Ar q3;have n3B:¬ T3=B:=by omega
 have nB3:¬ B=T3:=by omega
 exact kqq356.out):p:=h
theorem qq357(h:p:=by
 have rowE:=An.keep (ok':=fun b=>(B<b∧¬ b=T∧¬ b=P)∧(Value.slice (some ⟨g9,0,none⟩) (ls.length+1) cp9).ownBlock≠some b) As rowE (Sh.of_fr fm (fun b hb hlt=>⟨hb,by simp;exact hb.1.2.2⟩));exact kqq357.out):p:=h
theorem qq358(h:p:=by
 clear ROWH ROW9 Q8 Q9 hown9 hgrow9 hfp9 f8 hst hT8 hT9 hTwr
 generalize w9.setCell ⟨T,6,none⟩ (.slice (some ⟨g9,0,none⟩) 1 cp9)=y1 at *
 clear hsh hnew hsz cS;go_wp2_with fail;obtain⟨q,hq⟩:=Bn h0.inb;refine(Cp [105,110] P g c ts st5 q hq y1 h0 HE.out).mono ?_;rintro e y2 ⟨rfl,h0,fm⟩;have kqq365:=@Hz _ @nn723;exact qq365):p:=h
theorem qq359(h:p:=by
 obtain⟨i0,hi,hz0,hz1,hz2⟩:=info_parts I2;have HI:=Hz hi;have HZ0:=Hz hz0;have HZ1:=Hz hz1;have HZ2:=Hz hz2;clear hi hz0 hz1 hz2;exact kqq359.out):p:=h
theorem qq360(h:p:=by
 rintro e x6 ⟨k2,a2,nm2,n2,s2,ls2,args2,arms2,A52,n52,c52,A62,n62,c62,A72,n72,c72,st2,rfl,hx2,hr2,hst2,f6⟩;exact kqq360.out):p:=h
theorem qq361(h:p:=by
 obtain⟨⟨m0,m1,m2,m3,m4,m5,m6,m7⟩,j0,j1,j2,j3,j4,j5,j6,j7⟩:=Ac q0;have hTx:=Aa q0;exact kqq361.out):p:=h
theorem qq362(h:p:=by
 have rowS:=An.keep (ok':=fun b=>(B<b∧¬ b=T∧¬ b=P)∧(v6).ownBlock≠some b) Cg rowS (Sh.of_fr fm (fun b hb hlt=>⟨hb,by simp;exact hb.1.2.2⟩));clear fm;have hle3:=Jz u st0;have hle4:=D1 u1 (El u st0) [61];exact kqq362.out):p:=h
theorem qq363(h:p:=by
 obtain⟨j0,j1,j2,j3,j4,j5,j6,j7⟩:=HC0.out.at hg T1.st.1.fr;simp only[Nat.zero_mul,Nat.add_zero] at j0 j1 j2 j3 j4 j5 j6 j7;have HT:=Hz T1;clear T0 T1 hst cB m0 m1 m2 m3 y0 y1 y2 y3;go_wp2_with fail;exact kqq363.out):p:=h
theorem qq364(h:p:=by
 go_simp;refine((cS _ (h0.fr (Fr.refl [] y2).drew)).out).mono ?_;rintro e x8 ⟨k2,a2,nm2,n2,s2,ls2,args2,arms2,A52,n52,c52,A62,n62,c62,A72,n72,c72,st7,rfl,hx2,hr2,hst7,f8⟩;have hst:=hst7;have Q8:=f8.keep (w:=y2.drew) q0 sO;have hT8:=Aa Q8;have ROW9:=An.keep (w':=x8.alloc (.cells #[vI k2,vI a2,vS nm2,vI n2,vS s2,.slice A52 n52 c52,.slice A62 n62 c62,.slice A72 n72 c72] 27)) (ok':=fun b=>B<b∧¬ b=T∧¬ b=P) As ROWH.out (Sh.of_fr (((Fr.refl [P] y2).drew.trans f8).alloc _) (fun b hb hlt=>⟨hb,by simp;exact hb.2.2⟩));go_simp;exact kqq364.out):p:=h
theorem qq365(h:p:=by
 have g0:=fm.keep g0 sO;have q0:=fm.keep q0 sO;have F:=F.trans fm;have row:=An.keep (ok':=fun b=>B<b∧¬ b=T∧¬ b=P) As row (Sh.of_fr fm (fun b hb hlt=>⟨hb,by simp;exact hb.2.2⟩));exact kqq365.out):p:=h
theorem qq366(h:p:=by
 (try simp only[Act.put,sX])
 refine Af (i:=6) (v:=?v1007) rfl kR kR kR (fun _ _ _ h=>h) (Or.inl ⟨by rfl,?hy1007⟩) aS ?hr1007
 case hy1007 =>
  exact qq9
 (try simp only[Act.put,sX])
 exact kqq366.out):p:=h
theorem qq367(h:p:=by
 obtain⟨⟨l0,l1,l2,l3,l4,l5,l6,l7⟩,_⟩:=Ac q0;have hTwr:=Aa q0;have ROWH:=Hz row;clear row;go_wp2_with fail;exact kqq367.out):p:=h
theorem qq368(h:p:=by
 have rowE:=An.keep (ok':=fun b=>(B<b∧¬ b=T∧¬ b=P)∧(Value.slice (some ⟨g9,0,none⟩) (ls.length+1) cp9).ownBlock≠some b) Jh rowE (Sh.of_fr fm (fun b hb hlt=>⟨hb,by simp;exact hb.1.2.2⟩));exact kqq368.out):p:=h
theorem qq369(h:p:=by
 refine Af (i:=0) (v:=?v1010) rfl kR kR kR (fun _ _ _ h=>h) (Or.inl ⟨by rfl,?hy1010⟩) aS ?hr1010
 case hy1010 =>
  exact qq9
 (try simp only[Act.put,sX])
 refine Af (i:=1) (v:=?v1011) rfl kR kR kR (fun _ _ _ h=>h) (Or.inl ⟨by rfl,?hy1011⟩) aS ?hr1011
 case hy1011 =>
  exact qq9
 (try simp only[Act.put,sX])
 refine Af (i:=2) (v:=?v1012) rfl kR kR kR (fun _ _ _ h=>h) (Or.inl ⟨by rfl,?hy1012⟩) aS ?hr1012
 case hy1012 =>
  exact qq9
 (try simp only[Act.put,sX])
 refine Am (i:=3) rfl kR (fun K3 hK3=>?hr1013);exact kqq369.out):p:=h
theorem qq370(h:p:=by
 clear hK K;clear l0 l1 l2 l3 l4 l5 l6 l7 u0 u1 u2 u3 u4 u5 u6 u7 z0 z1 z2 z3 z4 z5 z6 z7;have f8:Fr [P] y0 x8:=((Fr.refl [P] y0).drew).trans f8;have row:=ROWH.out;exact kqq370.out):p:=h
theorem qq371(h:p:=by
 clear hK3 K3
 (try simp only[Act.put,sX])
 refine Am (i:=4) rfl kR (fun K4 hK4=>?hr1014);go_simp;refine hK4.out _ _ ?hS1014 (fun hHeld=>?hq1014)
 case hS1014=>exact Ab (Ae Q8 _) 6
 clear hK4 K4
 (try simp only[Act.put,sX])
 refine Am (i:=5) rfl kR (fun K5 hK5=>?hr1015);exact kqq371.out):p:=h
end Go.Proofs.YtlafbbnikgcdlaaGreatDoor
