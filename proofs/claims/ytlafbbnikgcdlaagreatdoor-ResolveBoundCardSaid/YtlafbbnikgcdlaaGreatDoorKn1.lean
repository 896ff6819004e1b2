/- A part of the proof: Fwr, Rb, Te, Ti, Oe, Of, Og, Oh. -/
import Derived.Test.YtlafbbnikgcdlaaGreatDoorCards
import Derived.Test.YtlafbbnikgcdlaaGreatDoorTie
import Derived.SizedLaws
import Derived.Shelf.Vars
import Derived.WalkKit
import Derived.ProofKit
import Derived.OpenShut
import Derived.LaidMore
import Derived.Carry
import Derived.Deep.DeepHandedRow
import Derived.Deep.DeepWitnessRowRef
import Derived.Lib.LaidTab
import Derived.Lib.LaidU8
import Derived.Stop.LaidErr
import Derived.BigQuiet
import Derived.Deep.RegionHeld3
import Derived.Deep.DrawnRows
import Derived.Deep.QuietTactic
import Derived.Test.YtlafbbnikgcdlaaGreatDoorKb25
import Derived.Test.YtlafbbnikgcdlaaGreatDoorKn0
namespace Go.Proofs.YtlafbbnikgcdlaaGreatDoor
open Go.RowKit
open _root_.Go.Proofs.Tryz
set_option linter.all false
set_option maxHeartbeats 16000000
set_option maxRecDepth 100000
variable{p:Prop}
open List renaming length_cons→Lc',getElem?_eq_getElem→Lg',mem_cons_self→Lm',cons_append→Lp'
open Bool renaming and_eq_true→Ba'
section
open Go.ChangeShapes Go.WideShapes Go.ChangeAt Go.ChangeMaps Go.RowKit
theorem star : "*" ++ "errors.errorString" = "*errors.errorString" := by decide
theorem rowErr (u : TypeId) (h : Tryz.prog.typeName? 3 u = some "*errors.errorString") : u = 237 :=
 typeName_ptr_named (nm := "errors.errorString") (by rw [star]; kernel_rfl) (by kernel_rfl) (by decide) u (by rw [star]; exact h)
theorem gTabType:(Tryz.prog.globals[3]?).map (·.type)=some 227:=by kernel_rfl
theorem gRngType:(Tryz.prog.globals[2]?).map (·.type)=some 161:=by kernel_rfl
theorem cellsTab:Tryz.prog.cellsOf 227=20:=by kernel_rfl
theorem cellsU64:Tryz.prog.cellsOf 206=1:=by kernel_rfl
theorem cellsErr:Tryz.prog.cellsOf 239=1:=by kernel_rfl
theorem cellsStr:Tryz.prog.cellsOf 9=1:=by kernel_rfl
theorem vars_in{W:World}(h:W.ShapedOpen Tryz.prog):Tryz.prog.globals.size≤W.heap.size:=by
 have hb:(((begin Tryz.prog (fun _ _=>0) default).world.heap[Tryz.prog.globals.size-1]?).bind Obj.row?).isSome=true:=by kernel_rfl
 obtain⟨⟨z,t⟩,hz⟩:=Option.isSome_iff_exists.1 hb
 have hlt:Tryz.prog.globals.size-1<Tryz.prog.globals.size:=of_decide_eq_true (by kernel_rfl)
 obtain⟨cs,hcs,_⟩:=h.1 _ z t hlt hz
 have:=(Array.getElem?_eq_some_iff.1 hcs).1
 omega
theorem env_of{W:World}(h:laidMetH Tryz.prog Rows.resolveFitsRow.laid W)(hs:W.ShapedOpen Tryz.prog):E1 W:=by
 rw[MakeChecks.laidMetH_plain _ _ _ (by kernel_rfl)] at h
 have h2:=h.tail.tail
 have h4:=h2.tail.tail
 obtain⟨a,s,hv,_⟩:=laid_sentinel h4 gRng gRngType Tryz.underlying161 rowErr Tryz.underlying237 Tryz.underlying239 rfl rfl Tryz.underlying9 cellsErr cellsStr
 exact⟨⟨vars_in hs,Lib.tabIs_of_head gTab gTabType Tryz.underlying227 Tryz.underlying206 cellsU64 cellsTab h2,_,_,hv⟩,Go.Proofs.cell_of_shapedOpen_int (t:=3) (zero:=#[.int .i64 0]) hs nMax (by kernel_rfl) rfl (by kernel_rfl) (by kernel_rfl) Tryz.underlying3⟩
end
theorem fail_e{S:Sc}{e a:Int}(h:(S.fail e a).e=0):S.e=0:=by
 unfold Sc.fail at h;split at h
 ·assumption
 ·exact h
theorem fail_e'{S:Sc}{e a:Int}(he:e≠0)(h:(S.fail e a).e=0):False:=by
 unfold Sc.fail at h;split at h
 ·exact he h
 ·contradiction
theorem Xf{S:Sc}{ls:List LB}{a:Int}(h:(S.labels ls a).e=0):S.e=0:=by
 unfold Sc.labels at h;split at h
 ·exact fail_e h
 ·exact h
theorem Tt{nm:LB}:∀ {l:List (List UInt8×Int)}{v:Int},Jo nm l=some v→∃ b ∈ l,b.2=v
 | [],_,h=>by cases h
 | b::l,v,h=>by
  rw[Jo] at h
  cases hf:Jo nm l with
  | some u =>
   rw[hf] at h;cases h;obtain⟨c,hc,e⟩:=Tt hf
   exact⟨c,List.mem_cons_of_mem _ hc,e⟩
  | none =>
   rw[hf] at h;dsimp only at h;split at h
   ·cases h;exact⟨b,Lm' ..,rfl⟩
   ·cases h
theorem find_e{S:Sc}{nm:LB}{a:Int}(h:(S.find nm a).2.e=0):S.e=0∧∃ v,Jo nm S.l=some v∧S.find nm a=(v,S):=by
 unfold Sc.find at h ⊢
 cases hf:Jo nm S.l with
 | some v=>rw[hf] at h;exact⟨h,v,rfl,rfl⟩
 | none=>rw[hf] at h;exact(fail_e' dC h).elim
theorem mid_e{b:Option LB}{S:Sc}(h:(Pi b S).e=0):S.e=0:=by cases b <;> exact h
theorem preP_e{k a:Int}{nm:LB}{ls:List LB}{m:Nat}{S:Sc}(h:(preP k a nm ls m S).e=0):S.e=0:=by
 unfold preP at h;split at h
 ·simp only[Sc.bind] at h;split at h
  ·exact fail_e h
  ·exact h
 ·split at h
  ·exact Xf h
  ·exact h
theorem preP_ok{k a:Int}{nm:LB}{ls:List LB}{m:Nat}{S:Sc}(h:Fz S):Fz (preP k a nm ls m S):=by
 unfold preP;split
 ·split
  ·exact(h.fail _ _).bind _
  ·exact h.bind _
 ·split
  ·exact h.labels _ _
  ·exact h
theorem preP_n(k a:Int)(nm:LB)(ls:List LB)(m:Nat)(S:Sc):(preP k a nm ls m S).n=if k=2 then S.n+1 else S.n:=by
 unfold preP;split
 ·simp only[Sc.bind];split
  ·rw[(Lr _ _ _).2]
  ·rfl
 ·split
  ·exact(K9 _ _ _).2
  ·rfl
mutual
theorem tmP_e:∀ (x:Al)(m:Nat)(S:Sc),(tmP x m S).2.e=0→S.e=0
 | .mk k a nm n s ls args,m,S,h=>by
  rw[Hl] at h;exact preP_e (tmPs_e args m _ h)
theorem tmPs_e:∀ (l:List Al)(m:Nat)(S:Sc),(Bt l m S).2.e=0→S.e=0
 | [],_,_,h=>h
 | x::l,m,S,h=>tmP_e x m S (tmPs_e l m _ h)
end
mutual
theorem tmP_ok:∀ (x:Al)(m:Nat)(S:Sc),Fz S→Fz (tmP x m S).2
 | .mk k a nm n s ls args,m,S,h=>by
  rw[Hl];exact tmPs_ok args m _ (preP_ok h)
theorem tmPs_ok:∀ (l:List Al)(m:Nat)(S:Sc),Fz S→Fz (Bt l m S).2
 | [],_,_,h=>h
 | x::l,m,S,h=>tmPs_ok l m _ (tmP_ok x m S h)
end
def Gs(b:Bool)(v m:Int):Option Int:=if b=true then (if v=m then some (m+1)else none)else some m
mutual
def N4:Bp→Int→Option Int
 | .mk k v _ _ _ args,m=>match Gs (k==2) v m with
  | some m1=>Jp args m1
  | none=>none
def Jp:List Bp→Int→Option Int
 | [],m=>some m
 | x::l,m=>match N4 x m with
  | some m1=>Jp l m1
  | none=>none
end
mutual
def Ij:At→Int→Option Int
 | .mk k _ v _ _ _ args cases,m=>match Gs (k==7||k==10) v m with
  | some m1=>match Il args (k==9||k==17) v m1 with
   | some m2=>match Fl cases m2 with
    | some m3=>if k=1∧¬ v<m3 then none else some m3
    | none=>none
   | none=>none
  | none=>none
/-- behind the first of them a variable may be bound -/
def Il:List At→Bool→Int→Int→Option Int
 | [],_,_,m=>some m
 | x::l,b,v,m=>match Ij x m with
  | some m1=>Eu l b v m1
  | none=>none
/-- those behind the first one -/
def Eu:List At→Bool→Int→Int→Option Int
 | [],_,_,m=>some m
 | x::l,b,v,m=>match Gs b v m with
  | some m1=>match Ij x m1 with
   | some m2=>Eu l false v m2
   | none=>none
  | none=>none
def Fl:List (Bp×At)→Int→Option Int
 | [],m=>some m
 | x::l,m=>match Tf x m with
  | some m1=>Fl l m1
  | none=>none
def Tf:Bp×At→Int→Option Int
 | (p,x),m=>match N4 p m with
  | some m1=>Ij x m1
  | none=>none
end
mutual
theorem tmP_le:∀ (x:Al)(m:Nat)(S:Sc),S.n≤(tmP x m S).2.n
 | .mk k a nm n s ls args,m,S=>by
  have h1:=tmPs_le args m (preP k a nm ls m S);have h2:=preP_n k a nm ls m S;rw[Hl];dsimp only;split at h2 <;> omega
theorem tmPs_le:∀ (l:List Al)(m:Nat)(S:Sc),S.n≤(Bt l m S).2.n
 | [],_,_=>Int.le_refl _
 | x::l,m,S=>Int.le_trans (tmP_le x m S) (tmPs_le l m _)
end
mutual
theorem tmP_num:∀ (x:Al)(m:Nat)(S:Sc),N4 (tmP x m S).1 S.n=some (tmP x m S).2.n
 | .mk k a nm n s ls args,m,S=>by
  have ih:=Yr args m (preP k a nm ls m S);rw[Hl];dsimp only;rw[N4,Gs];by_cases hk:k=2
  ·rw[if_pos (by simp[hk]),if_pos (by rw[if_pos hk])];rw[preP_n,if_pos hk] at ih;exact ih
  ·rw[if_neg (by simp[hk])];rw[preP_n,if_neg hk] at ih;exact ih
theorem Yr:∀ (l:List Al)(m:Nat)(S:Sc),Jp (Bt l m S).1 S.n=some (Bt l m S).2.n
 | [],_,_=>rfl
 | x::l,m,S=>by
  have h1:=tmP_num x m S;have h2:=Yr l m (tmP x m S).2;rw[Bt];dsimp only;rw[Jp,h1];exact h2
end
mutual
theorem tmE_e:∀ (x:Ad)(S:Sc),(tmE x S).2.e=0→S.e=0
 | .mk k a nm n s ls args arms,S,h=>by
  rcases Ho k with rfl|rfl|hk|rfl|rfl|rfl|rfl|rfl|rfl|hk
  ·rw[Ul] at h;exact(find_e h).1
  ·rw[Um] at h;exact Kg args none (S.bind nm) h
  ·rw[Sx k a hk] at h;exact Kg args _ S h
  ·rw[Pn] at h;exact Kg args none (S.bind nm) h
  ·rw[Po] at h;exact Xf (Kg args none _ h)
  ·rw[Pp] at h;exact Kg args _ S (Pm arms _ h)
  ·rw[Pq] at h;exact Kg args _ S (Pm arms _ h)
  ·rw[Pr] at h;exact Kg args _ S h
  ·rw[Ps] at h;exact Kg args _ S h
  ·rw[Li hk] at h;exact Kg args _ S h
theorem Kg:∀ (l:List Ad)(b:Option LB)(S:Sc),(Bf l b S).2.2.e=0→S.e=0
 | [],_,_,h=>h
 | x::l,b,S,h=>tmE_e x S (mid_e (Kg l none _ h))
theorem Pm:∀ (l:List (Al×Ad))(S:Sc),(Eb l S).2.e=0→S.e=0
 | [],_,h=>h
 | x::l,S,h=>tmA_e x S (Pm l _ h)
theorem tmA_e:∀ (x:Al×Ad)(S:Sc),(tmA x S).2.e=0→S.e=0
 | (p,x),S,h=>tmP_e p _ S (tmE_e x _ h)
end
mutual
theorem V0:∀ (x:Ad)(S:Sc),Fz S→Fz (tmE x S).2
 | .mk k a nm n s ls args arms,S,h=>by
  rcases Ho k with rfl|rfl|hk|rfl|rfl|rfl|rfl|rfl|rfl|hk
  ·rw[Ul];exact h.find _ _
  ·rw[Um];exact(Hh args none _ (h.bind nm)).cut _
  ·rw[Sx k a hk];exact(Hh args _ S h).cut _
  ·rw[Pn];exact(Hh args none _ (h.bind nm)).cut _
  ·rw[Po];exact Hh args none _ (h.labels _ _)
  ·rw[Pp];exact Vz arms _ (Hh args _ S h)
  ·rw[Pq];exact Vz arms _ (Hh args _ S h)
  ·rw[Pr];exact Hh args _ S h
  ·rw[Ps];exact Hh args _ S h
  ·rw[Li hk];exact Hh args _ S h
theorem Hh:∀ (l:List Ad)(b:Option LB)(S:Sc),Fz S→Fz (Bf l b S).2.2
 | [],_,_,h=>h
 | x::l,b,S,h=>Hh l none _ ((V0 x S h).mid b)
theorem Vz:∀ (l:List (Al×Ad))(S:Sc),Fz S→Fz (Eb l S).2
 | [],_,h=>h
 | x::l,S,h=>Vz l _ (tmA_ok x S h)
theorem tmA_ok:∀ (x:Al×Ad)(S:Sc),Fz S→Fz (tmA x S).2
 | (p,x),S,h=>(V0 x _ (tmP_ok p _ S h)).cut _
end
theorem Gw(k a v n:Int)(s:LB)(ls:List LB)(args:List At)(cases:List (Bp×At))(m m1 m2 m3:Int)(h1:Gs (k==7||k==10) v m=some m1)(h2:Il args (k==9||k==17) v m1=some m2)(h3:Fl cases m2=some m3)(h4:k=1→v<m3):Ij (.mk k a v n s ls args cases) m=some m3:=by
 rw[Ij,h1];dsimp only;rw[h2];dsimp only;rw[h3];dsimp only;rw[if_neg (fun h=>h.2 (h4 h.1))]
theorem Id:∀ (l:List At)(v m:Int),Il l false v m=Eu l false v m
 | [],_,_=>rfl
 | x::l,v,m=>by rw[Il,Eu];rfl
theorem Uc:∀ (l:List At)(v m m':Int)(x:At),Eu l false v m=some m'→Eu (l++[x]) false v m=Ij x m'
 | [],v,m,m',x,h=>by
  rw[Eu] at h;cases h;rw[List.nil_append,Eu];simp only[Gs]
  cases hx:Ij x m with
  | none=>simp[hx]
  | some m2=>simp[hx,Eu]
 | y::l,v,m,m',x,h=>by
  rw[Eu] at h;rw[Lp',Eu];simp only[Gs] at h ⊢
  cases hy:Ij y m with
  | none=>simp[hy] at h
  | some m2 =>
   simp only[hy,Bool.false_eq_true,if_false] at h ⊢;exact Uc l v m2 m' x h
theorem Tn(a n m:Int):Ij (Ri a n) m=some m:=Gw 4 a 0 n [] [] [] [] m m m m rfl rfl rfl (fun h=>by cases h)
theorem S4(a v m:Int)(h:v<m):Ij (Pv a v) m=some m:=Gw 1 a v 0 [] [] [] [] m m m m rfl rfl rfl (fun _=>h)
theorem Ub:∀ (l:List (Bp×At))(m m':Int)(x:Bp×At),Fl l m=some m'→Fl (l++[x]) m=Tf x m'
 | [],m,m',x,h=>by
  rw[Fl] at h;cases h;rw[List.nil_append,Fl]
  cases hx:Tf x m with
  | none=>rfl
  | some m2=>rfl
 | y::l,m,m',x,h=>by
  rw[Fl] at h;rw[Lp',Fl]
  cases hy:Tf y m with
  | none=>rw[hy] at h;cases h
  | some m2=>rw[hy] at h;exact Ub l m2 m' x h
theorem or_num(a v m m':Int):∀ l:List At,Eu l false v m=some m'→Eu (orT a l) false v m=some m'
 | [],h=>h
 | x::l,h=>by
  rw[orT,Eu];rw[Eu] at h;simp only[Gs,Bool.false_eq_true,if_false] at h ⊢
  cases hx:Ij x m with
  | none=>rw[hx] at h;cases h
  | some m2 =>
   rw[hx] at h;dsimp only at h ⊢;rw[Eu];simp only[Gs,Bool.false_eq_true,if_false,Tn];exact h
theorem tryT_num(a v m m':Int)(c:List (Bp×At))(hv:v<m)(hm:m≤m')(hc:Fl c m=some m'):Ij (Y0 a v c) m=some m':=by
 refine Gw 16 a 0 0 [] [] _ _ m m m m' rfl ?_ ?_ (fun h=>by cases h)
 ·rw[show((16:Int)==9||(16:Int)==17)=false from rfl,Id,Eu];simp only[Gs,Bool.false_eq_true,if_false,S4 a v m hv,Eu]
 ·rw[Ub _ _ _ _ hc,Tf,N4];simp only[Gs,Jp];refine Gw 18 a 0 0 [] [] _ [] m' m' m' m' rfl ?_ rfl (fun h=>by cases h);rw[show((18:Int)==9||(18:Int)==17)=false from rfl,Id,Eu];simp only[Gs,Bool.false_eq_true,if_false,S4 a v m' oM,Eu]
theorem mayE_ar{k a:Int}{nm:LB}{n:Int}{s:LB}{ls:List LB}{args:List Ad}{arms:List (Al×Ad)}(h:Bh (.mk k a nm n s ls args arms)=true):Ax args=true∧Bd arms=true∧(k=9∨k=20∨k=10∨k=21∨k=22→args.length=2)∧(k=7∨k=17∨k=16→args.length=1):=by
 rw[Bh,Ba',Ba'] at h;refine⟨h.1.2,h.2,fun hk=>?_,fun hk=>?_⟩
 ·have h1:=h.1.1;rcases hk with rfl|rfl|rfl|rfl|rfl <;> simp[D3,Cc,Ah] at h1 <;> omega
 ·have h1:=h.1.1;rcases hk with rfl|rfl|rfl <;> simp[D3,Cc,Ah] at h1 <;> omega
theorem Ls{x:Ad}{l:List Ad}(h:Ax (x::l)=true):Bh x=true∧Ax l=true:=by
 rw[Ax,Ba'] at h;exact h
theorem Z7{p:Al}{x:Ad}{l:List (Al×Ad)}(h:Bd ((p,x)::l)=true):Fb p=true∧Bh x=true∧Bd l=true:=by
 rw[Bd,mayA,Ba',Ba'] at h;exact⟨h.1.1,h.1.2,h.2⟩
mutual
theorem Nd:∀ (x:Ad)(S:Sc),Bh x=true→Fz S→(tmE x S).2.e=0→S.n≤(tmE x S).2.n∧Ij (tmE x S).1 S.n=some (tmE x S).2.n
 | .mk k a nm n s ls args arms,S,hm,h,he=>by
  obtain⟨ma,mb,h2,h1⟩:=mayE_ar hm;rcases Ho k with rfl|rfl|hk|rfl|rfl|rfl|rfl|rfl|rfl|hk
  ·rw[Ul] at he ⊢;obtain⟨_,v,hf,hv⟩:=find_e he;rw[hv];obtain⟨b,hb,e⟩:=Tt hf;have:=h.2 b hb;exact⟨Int.le_refl _,S4 a v S.n oM⟩
  ·rw[Um] at he ⊢;obtain⟨h1,h2⟩:=Jb args (S.bind nm) S.n ma (h.bind nm) he;refine⟨by simp only[Sc.bind,Sc.cut] at h1 ⊢;omega,Gw 7 a S.n 0 [] [] _ [] S.n (S.n+1) _ _ (by simp[Gs]) (by rw[show((7:Int)==9||(7:Int)==17)=false from rfl,Id];exact h2) rfl (fun h=>by cases h)⟩
  ·rw[Sx k a hk] at he ⊢;obtain⟨h1,h2⟩:=tmEs_num2 args (if k=20 then [95] else nm) S (h2 oM) ma h he;exact⟨h1,Gw 9 a _ 0 [] [] _ [] S.n S.n _ _ rfl h2 rfl (fun h=>by cases h)⟩
  ·rw[Pn] at he ⊢;obtain⟨h1,h2⟩:=Jb args (S.bind nm) S.n ma (h.bind nm) he;refine⟨by simp only[Sc.bind,Sc.cut] at h1 ⊢;omega,Gw 10 a S.n 0 [] [] _ [] S.n (S.n+1) _ _ (by simp[Gs]) (by rw[show((10:Int)==9||(10:Int)==17)=false from rfl,Id];exact h2) rfl (fun h=>by cases h)⟩
  ·rw[Po] at he ⊢;obtain⟨h1,h2⟩:=Jb args (S.labels ls a) 0 ma (h.labels ls a) he;rw[(K9 S ls a).2] at h1 h2;exact⟨h1,Gw 12 a 0 0 [] ls _ [] S.n S.n _ _ rfl (by rw[show((12:Int)==9||(12:Int)==17)=false from rfl,Id];exact h2) rfl (fun h=>by cases h)⟩
  ·rw[Pp] at he ⊢;obtain⟨h1,h2⟩:=Jb args S 0 ma h (Pm arms _ he);obtain⟨h3,h4⟩:=Sw arms _ mb (Hh args none S h) he;exact⟨Int.le_trans h1 h3,Gw 16 a 0 0 [] [] _ _ S.n S.n _ _ rfl (by rw[show((16:Int)==9||(16:Int)==17)=false from rfl,Id];exact h2) h4 (fun h=>by cases h)⟩
  ·rw[Pq] at he ⊢;obtain⟨x',e1,e2,e3,h5⟩:=tmEs_num1 args S (h1 oM) ma h (Pm arms _ he);obtain⟨h3,h4⟩:=Sw arms _ mb (Hh args (some [95]) S h) he;have h6:S.n≤(Bf args (some [95]) S).2.1:=e3;refine⟨by dsimp only;omega,Gw 17 a _ 0 [] [] _ [] S.n S.n _ _ rfl ?_ rfl (fun h=>by cases h)⟩;rw[e1,show((17:Int)==9||(17:Int)==17)=true from rfl,Lp',List.nil_append,Il,h5];dsimp only;rw[Eu,Gs,if_pos rfl,if_pos rfl];dsimp only;rw[← e2,tryT_num a _ _ _ _ oM h3 h4];rfl
  ·rw[Pr] at he ⊢;obtain⟨h1,h2⟩:=Jb args S 0 ma h he;refine⟨h1,Gw 11 a 0 0 [] [] _ [] S.n S.n _ _ rfl ?_ rfl (fun h=>by cases h)⟩;rw[show((11:Int)==9||(11:Int)==17)=false from rfl,Id,Uc _ _ _ _ _ h2];exact Tn _ _ _
  ·rw[Ps] at he ⊢;obtain⟨h1,h2⟩:=Jb args S 0 ma h he;refine⟨h1,Gw 11 a 0 0 [] [] _ [] S.n S.n _ _ rfl ?_ rfl (fun h=>by cases h)⟩;rw[show((11:Int)==9||(11:Int)==17)=false from rfl,Id];exact or_num _ _ _ _ _ h2
  ·rw[Li hk] at he ⊢;obtain⟨h1,h2⟩:=Jb args S 0 ma h he;refine⟨h1,?_⟩;unfold Lx
   have hq:∀ q:Int,q=(if k=2∨k=3∨k=4∨k=5∨k=6∨k=8∨k=11∨k=13∨k=14∨k=15∨k=18∨k=19 then k else 0)→q≠7∧q≠10∧q≠9∧q≠17∧q≠1:=by
    intro q hq;split at hq <;> omega
   have hq:=hq _ rfl
   generalize (if k=2∨k=3∨k=4∨k=5∨k=6∨k=8∨k=11∨k=13∨k=14∨k=15∨k=18∨k=19 then k else 0)=q at *
   obtain⟨q1,q2,q3,q4,q5⟩:=hq;refine Gw q a 0 n _ [] _ [] S.n S.n _ _ ?_ ?_ rfl (fun h=>absurd h q5)
   ·rw[Gs,if_neg];simp[q1,q2]
   ·rw[show(q==9||q==17)=false by simp[q3,q4],Id];exact h2
theorem Jb:∀ (l:List Ad)(S:Sc)(v:Int),Ax l=true→Fz S→(Bf l none S).2.2.e=0→S.n≤(Bf l none S).2.2.n∧Eu (Bf l none S).1 false v S.n=some (Bf l none S).2.2.n
 | [],S,v,hm,h,he=>⟨Int.le_refl _,rfl⟩
 | x::l,S,v,hm,h,he=>by
  obtain⟨m1,m2⟩:=Ls hm;obtain⟨h1,h2⟩:=Nd x S m1 h (Kg l none _ he);obtain⟨h3,h4⟩:=Jb l (tmE x S).2 v m2 (V0 x S h) he;refine⟨Int.le_trans h1 h3,?_⟩;rw[Bf];dsimp only;rw[Eu];simp only[Gs,Bool.false_eq_true,if_false,h2];exact h4
theorem tmEs_num2:∀ (l:List Ad)(nm:LB)(S:Sc),l.length=2→Ax l=true→Fz S→(Bf l (some nm) S).2.2.e=0→S.n≤(Bf l (some nm) S).2.2.n∧Il (Bf l (some nm) S).1 true (Bf l (some nm) S).2.1 S.n=some (Bf l (some nm) S).2.2.n
 | [],_,_,hl,_,_,_=>by cases hl
 | [_],_,_,hl,_,_,_=>by cases hl
 | x::y::z::l,_,_,hl,_,_,_=>by simp at hl
 | [x,y],nm,S,hl,hm,h,he=>by
  obtain⟨m1,m2⟩:=Ls hm;obtain⟨m3,_⟩:=Ls m2;have he2:(tmE y ((tmE x S).2.bind nm)).2.e=0:=he;obtain⟨h1,h2⟩:=Nd x S m1 h (show(tmE x S).2.e=0 from tmE_e y ((tmE x S).2.bind nm) he2);obtain⟨h3,h4⟩:=Nd y ((tmE x S).2.bind nm) m3 ((V0 x S h).bind nm) he2;have e:(Bf [x,y] (some nm) S)=([(tmE x S).1,(tmE y ((tmE x S).2.bind nm)).1],(tmE x S).2.n,(tmE y ((tmE x S).2.bind nm)).2):=rfl;rw[e];dsimp only;refine⟨by simp only[Sc.bind] at h3;simp only[Sc.bind];omega,?_⟩;rw[Il,h2];dsimp only;rw[Eu,Gs,if_pos rfl,if_pos rfl];dsimp only;rw[show(tmE x S).2.n+1=((tmE x S).2.bind nm).n from rfl,h4];rfl
theorem tmEs_num1:∀ (l:List Ad)(S:Sc),l.length=1→Ax l=true→Fz S→(Bf l (some [95]) S).2.2.e=0→∃ x',(Bf l (some [95]) S).1=[x']∧(Bf l (some [95]) S).2.2.n=(Bf l (some [95]) S).2.1+1∧S.n≤(Bf l (some [95]) S).2.1∧Ij x' S.n=some (Bf l (some [95]) S).2.1
 | [],_,hl,_,_,_=>by cases hl
 | x::y::l,_,hl,_,_,_=>by simp at hl
 | [x],S,hl,hm,h,he=>by
  obtain⟨m1,_⟩:=Ls hm;have he2:(tmE x S).2.e=0:=he;obtain⟨h1,h2⟩:=Nd x S m1 h he2;exact⟨_,rfl,rfl,h1,h2⟩
theorem Sw:∀ (l:List (Al×Ad))(S:Sc),Bd l=true→Fz S→(Eb l S).2.e=0→S.n≤(Eb l S).2.n∧Fl (Eb l S).1 S.n=some (Eb l S).2.n
 | [],S,_,h,he=>⟨Int.le_refl _,rfl⟩
 | (p,x)::l,S,hm,h,he=>by
  obtain⟨m0,m1,m2⟩:=Z7 hm;have he0:(tmA (p,x) S).2.e=0:=Pm l (tmA (p,x) S).2 he;have he1:(tmE x (tmP p S.l.length S).2).2.e=0:=he0;have k1:=tmP_num p S.l.length S;have k2:=tmP_le p S.l.length S;obtain⟨h1,h2⟩:=Nd x (tmP p S.l.length S).2 m1 (tmP_ok p _ S h) he1;obtain⟨h3,h4⟩:=Sw l (tmA (p,x) S).2 m2 (tmA_ok (p,x) S h) he;have e:(tmA (p,x) S).2.n=(tmE x (tmP p S.l.length S).2).2.n:=rfl;refine⟨by rw[e] at h3;exact Int.le_trans k2 (Int.le_trans h1 h3),?_⟩;rw[Eb];dsimp only;rw[Fl,tmA];dsimp only;rw[Tf,k1];dsimp only;rw[h2];exact h4
end
theorem res_bound{x:Ad}(hm:Bh x=true)(he:(tmE x .zero).2.e=0):∃ m,Ij (tmE x .zero).1 0=some m :=
 ⟨_,(Nd x .zero hm ⟨Int.le_refl _,fun b hb=>by cases hb⟩ he).2⟩
section
attribute [local go_sem ↓] Go.wp_at_zero Go.wp_at_succ
theorem zPs_get{l:List Bp}{i:Nat}{x:Bp}(h:l[i]?=some x):zP x≤zPs l:=by
 induction l generalizing i with
 | nil=>simp at h
 | cons y l ih =>
  cases i with
  | zero=>simp at h;subst h;simp[zPs]
  | succ i=>have:=ih (i:=i) (by simpa using h);simp only[zPs];omega
section
theorem V6{l:List (Bp×At)}{i:Nat}{p:Bp}{x:At}(h:l[i]?=some (p,x)):zP p+zT x≤zCs l:=by
 induction l generalizing i with
 | nil=>simp at h
 | cons y l ih =>
  cases i with
  | zero=>simp at h;subst h;simp[zCs,zA]
  | succ i=>have:=ih (i:=i) (by simpa using h);simp only[zCs];omega
variable [KdB]
end
theorem Kj{b:Bool}{v m m1:Int}(h:Gs b v m=some m1):m≤m1∧m1≤m+1:=by
 unfold Gs at h;split at h
 ·split at h
  ·cases h;omega
  ·cases h
 ·cases h;omega
mutual
theorem Lt:∀ {x:Bp}{m m':Int},N4 x m=some m'→m≤m'∧m'≤m+zP x
 | .mk k v n s ls args,m,m',h=>by
  rw[N4] at h;rw[zP]
  cases e:Gs (k==2) v m with
  | none=>rw[e] at h;cases h
  | some m1 =>
   rw[e] at h;have h1:=Kj e;have h2:=Mh h;omega
theorem Mh:∀ {l:List Bp}{m m':Int},Jp l m=some m'→m≤m'∧m'≤m+zPs l
 | [],m,m',h=>by rw[Jp] at h;cases h;rw[zPs];omega
 | x::l,m,m',h=>by
  rw[Jp] at h;rw[zPs]
  cases e:N4 x m with
  | none=>rw[e] at h;cases h
  | some m1 =>
   rw[e] at h;have h1:=Lt e;have h2:=Mh h;omega
end
theorem Xv{l:List Bp}{i:Nat}{y:Bp}{m m':Int}(hy:l[i]?=some y)(h:Jp (l.drop i) m=some m'):∃ m1,N4 y m=some m1∧Jp (l.drop (i+1)) m1=some m':=by
 have hlt:=(List.getElem?_eq_some_iff.1 hy).1
 have e:l.drop i=y::l.drop (i+1):=by
  exact qqKn3
 rw[e,Jp] at h
 cases e1:N4 y m with
 | none=>rw[e1] at h;cases h
 | some m1=>rw[e1] at h;exact⟨m1,rfl,h⟩
theorem zPs_len:∀ l:List Bp,l.length≤zPs l
 | []=>Nat.zero_le _
 | x::l=>by
  have:=zPs_len l;obtain⟨k,v,n,s,ls,args⟩:=x;rw[zPs,zP,Lc'];omega
abbrev Fo (w:World)(Q:Nat)(m:Int):Prop:=w.heap[Q]?=some (.cells #[vI m] 3 (0,0))
def NPC(N:Nat):Prop:=∀ (k v n:Int)(s:LB)(ls:List LB)(args:List Bp)(A4 A5:Option Addr)(c4 c5:Nat)(m m':Int)(w:World)(ok:Nat→Prop)(Q:Nat),zP (.mk k v n s ls args)<N→zP (.mk k v n s ls args)≤1099511627775→N4 (.mk k v n s ls args) m=some m'→Cs w ok (.mk k v n s ls args) [vI k,vI v,vI n,vS s,.slice A4 ls.length c4,.slice A5 args.length c5]→¬ ok Q→Fo w Q m→0≤m→m'≤4611686018427387904 →
  Calls prog 27 #[.agg #[vI k,vI v,vI n,vS s,.slice A4 ls.length c4,.slice A5 args.length c5],.pointer (some ⟨Q,0,none⟩)] w fun e w'=>e = .returned (.bool true)∧Fo w' Q m'∧Fr [Q] w w'
theorem nump_step(N:Nat)(ih:NPC N):NPC (N+1):=by
 intro k v n s ls args A4 A5 c4 c5 m m' w ok Q hN hz hm hx hok hq h0 hb
 cases hx with
 | mk d4 d5 h4 e4 h5 e5 =>
 rw[zP] at hN hz;have hlen:=zPs_len args;have b5:(args.length:Int)≤1099511627775:=by omega
 have HN:=Hz hN;have HZ:=Hz hz;have IH:=Hz ih;have H5:=Hz h5;have E5:Hid (∀ (i:Nat) (x:Bp),args[i]?=some x→Cs w ok x (d5 i)):=Hz e5;have HQ:=Hz hq;have HOK:=Hz hok;rw[N4] at hm
 obtain⟨m1,hm1,hm2⟩:∃ m1,Gs (k==2) v m=some m1∧Jp args m1=some m':=by
  cases e:Gs (k==2) v m with
  | none=>rw[e] at hm;cases hm
  | some m1=>rw[e] at hm;exact⟨m1,rfl,hm⟩
 have hle:=Mh hm2;have hle1:=Kj hm1;have HM:=Hz hm2;have hQw:Q<w.heap.size:=Aa hq;have f0:=(Fr.refl [] w).alloc (.cells #[vI k,vI v,vI n,vS s,.slice A4 ls.length c4,.slice A5 args.length c5] 76);have q0:=Ag w (.cells #[vI k,vI v,vI n,vS s,.slice A4 ls.length c4,.slice A5 args.length c5] 76);have q1:=f0.keep hq nE
 have hkk:(k=2∧v=m∧m1=m+1)∨(k≠2∧m1=m):=by
  unfold Gs at hm1;by_cases e:k=2
  ·rw[if_pos (by simp[e])] at hm1;by_cases e2:v=m
   ·rw[if_pos e2] at hm1;cases hm1;exact .inl ⟨e,e2,rfl⟩
   ·rw[if_neg e2] at hm1;cases hm1
  ·rw[if_neg (by simp[e])] at hm1;cases hm1;exact .inr ⟨e,rfl⟩
 clear hN hz ih h4 e4 h5 e5 hq hok hm hm1 hm2 hlen;have hk2:((k==2)=true∧v=m∧m1=m+1)∨((k==2)=false∧m1=m):=hkk.imp (fun h=>⟨by simp[h.1],h.2⟩) (fun h=>⟨bN.2 h.1,h.2⟩);clear hkk;have F0:Hid (Fr [Q] w (w.alloc (.cells #[vI k,vI v,vI n,vS s,.slice A4 ls.length c4,.slice A5 args.length c5] 76))):=Hz (f0.mono (fun x hx=>by cases hx));generalize hx0:w.alloc (.cells #[vI k,vI v,vI n,vS s,.slice A4 ls.length c4,.slice A5 args.length c5] 76)=x at f0 q0 q1 F0;generalize hT:w.heap.size=T at q0;have hTx:=Aa q0;have nQ:¬ T=Q:=by omega
 have nQ2:¬ Q=T:=by omega
 obtain⟨⟨l0,l1,l2,l3,l4,l5⟩,_⟩:=Bl q0;have y0:=Ab q1 0;have y1:=Ap q1 0;have hq1:=Aa q1
 rcases hk2 with⟨hk,rfl,rfl⟩| ⟨hk,rfl⟩
 ·go_enter func27,ntmps27;go_wp2_with fail
  go_region_held3 (fun w'=>w'.cell? ⟨T,1,none⟩=some (vI v)∧w'.cell? ⟨Q,0,none⟩=some (vI v)) (first|go_keep) (fail)
  go_wp2_with fail;have F:=Hz (((Fr.refl [Q] x).setCell (p:=⟨Q,0,none⟩) (.inl sM) (vI (v+1))).drew);have I:=Hz (show Fo (x.setCell ⟨Q,0,none⟩ (vI (v+1))).drew Q (v+1)from Lg q1 (vI (v+1)))
  generalize World.drew _=y at *
  go_loopw [5,24] (fun bv iv wr=>∃ (i:Nat) (mi:Int),bv = .bool true∧iv=vI i∧i≤args.length∧0≤mi∧Hid (Jp (args.drop i) mi=some m')∧Hid (Fo wr Q mi)∧Fr [Q] x wr) (fun bv iv wr=>args.length-(intOf iv).toNat)
  case atStart=>exact⟨0,v+1,rfl,rfl,oM,oM,HM,I,F.out⟩
  case round =>
   exact qqKn2
 ·go_enter func27,ntmps27;go_wp2_with fail;have I:=Hz q1
  go_loopw [5,24] (fun bv iv wr=>∃ (i:Nat) (mi:Int),bv = .bool true∧iv=vI i∧i≤args.length∧0≤mi∧Hid (Jp (args.drop i) mi=some m')∧Hid (Fo wr Q mi)∧Fr [Q] x wr) (fun bv iv wr=>args.length-(intOf iv).toNat)
  case atStart=>exact⟨0,m1,rfl,rfl,oM,oM,HM,I,Fr.refl _ _⟩
  case round =>
   exact qqKn2
theorem Op:∀ N,NPC N
 | 0=>by intro _ _ _ _ _ _ _ _ _ _ _ _ _ _ _ h;exact absurd h (Nat.not_lt_zero _)
 | N+1=>nump_step N (Op N)
end
theorem zTs_cat(l m:List At):zTs (l++m)=zTs l+zTs m:=by
 induction l with
 | nil=>simp[zTs]
 | cons x l ih=>simp only[Lp',zTs,ih];omega
theorem zCs_cat(l m:List (Bp×At)):zCs (l++m)=zCs l+zCs m:=by
 induction l with
 | nil=>simp[zCs]
 | cons x l ih=>simp only[Lp',zCs,ih];omega
theorem Y4:∀ l:List At,l.length≤zTs l
 | []=>Nat.zero_le _
 | x::l=>by
  have:=Y4 l;obtain⟨k,a,v,n,s,ls,args,cases⟩:=x;rw[zTs,zT,Lc'];omega
theorem Y3:∀ l:List (Bp×At),l.length≤zCs l
 | []=>Nat.zero_le _
 | (p,x)::l=>by
  have:=Y3 l;obtain⟨k,a,v,n,s,ls,args,cases⟩:=x;rw[zCs,zA,zT,Lc'];omega
mutual
theorem tmP_z:∀ (x:Al)(m:Nat)(S:Sc),zP (tmP x m S).1≤8 * szP x
 | .mk k a nm n s ls args,m,S=>by
  have:=tmPs_z args m (preP k a nm ls m S);rw[Hl,szP,zP];omega
theorem tmPs_z:∀ (l:List Al)(m:Nat)(S:Sc),zPs (Bt l m S).1≤8 * E2 l
 | [],_,_=>by rw[Bt,zPs,E2];omega
 | x::l,m,S=>by
  have h1:=tmP_z x m S;have h2:=tmPs_z l m (tmP x m S).2;rw[Bt,E2];dsimp only;rw[zPs];omega
end
theorem orT_z(a:Int):∀ l,zTs (orT a l)≤1+zTs l
 | []=>by rw[orT];omega
 | x::l=>by
  rw[orT,zTs,zTs,zTs,Ri,zT,zTs,zCs];omega
theorem tryT_z(a v:Int)(c:List (Bp×At)):zT (Y0 a v c)=5+zCs c:=by
 rw[Y0,zT,zCs_cat,zTs,zTs,zCs,zA,zCs,Pv,zT,zTs,zCs,zT,zTs,zTs,zCs,zP,zPs,zT,zTs,zCs];omega
mutual
theorem tmE_z:∀ (x:Ad)(S:Sc),zT (tmE x S).1≤8 * szE x
 | .mk k a nm n s ls args arms,S=>by
  have hA:∀ b S,zTs (Bf args b S).1≤8 * Bk args:=fun b S=>tmEs_z args b S
  have hC:∀ S,zCs (Eb arms S).1≤8 * B1 arms:=fun S=>tmAs_z arms S
  rw[tmE,szE];by_cases c1:k=1
  ·rw[if_pos c1];dsimp only;rw[Pv,zT,zTs,zCs];omega
  rw[if_neg c1];by_cases c2:k=7
  ·rw[if_pos c2];dsimp only;rw[zT,zCs];have:=hA none (S.bind nm);omega
  rw[if_neg c2];by_cases c3:k=9∨k=20
  ·rw[if_pos c3];dsimp only;rw[zT,zCs];have:=hA (some (if k=20 then [95] else nm)) S;omega
  rw[if_neg c3];by_cases c4:k=10
  ·rw[if_pos c4];dsimp only;rw[zT,zCs];have:=hA none (S.bind nm);omega
  rw[if_neg c4];by_cases c5:k=12
  ·rw[if_pos c5];dsimp only;rw[zT,zCs];have:=hA none (S.labels ls a);omega
  rw[if_neg c5];by_cases c6:k=16
  ·rw[if_pos c6];dsimp only;rw[zT];have:=hA none S;have:=hC (Bf args none S).2.2;omega
  rw[if_neg c6];by_cases c7:k=17
  ·rw[if_pos c7];dsimp only;rw[zT,zCs,zTs_cat,zTs,zTs,tryT_z];have:=hA (some [95]) S;have:=hC (Bf args (some [95]) S).2.2;omega
  rw[if_neg c7];by_cases c8:k=21
  ·rw[if_pos c8];dsimp only;rw[zT,zCs,zTs_cat,zTs,zTs,Ri,zT,zTs,zCs];have:=hA none S;omega
  rw[if_neg c8];by_cases c9:k=22
  ·rw[if_pos c9];dsimp only;rw[zT,zCs];have:=hA none S;have:=orT_z a (Bf args none S).1;omega
  rw[if_neg c9];dsimp only;rw[Lx,zT,zCs];have:=hA none S;omega
theorem tmEs_z:∀ (l:List Ad)(b:Option LB)(S:Sc),zTs (Bf l b S).1≤8 * Bk l
 | [],_,_=>by rw[Bf,zTs,Bk];omega
 | x::l,b,S=>by
  have h1:=tmE_z x S;have h2:=tmEs_z l none (Pi b (tmE x S).2);rw[Bf,Bk];dsimp only;rw[zTs];omega
theorem tmAs_z:∀ (l:List (Al×Ad))(S:Sc),zCs (Eb l S).1≤8 * B1 l
 | [],_=>by rw[Eb,zCs,B1];omega
 | x::l,S=>by
  have h1:=tmA_z x S;have h2:=tmAs_z l (tmA x S).2;rw[Eb,B1];dsimp only;rw[zCs];omega
theorem tmA_z:∀ (x:Al×Ad)(S:Sc),zA (tmA x S).1≤8 * szA x
 | (p,x),S=>by
  have h1:=tmP_z p S.l.length S;have h2:=tmE_z x (tmP p S.l.length S).2;rw[tmA,szA];dsimp only;rw[zA];omega
end
def Qj(i:Nat)(l:List At)(b:Bool)(v m:Int):Option Int:=if i=0 then Il l b v m else Eu l (b&&i==1) v m
theorem Vk{l:List At}{i:Nat}{y:At}{b:Bool}{v m m':Int}(hy:l[i]?=some y)(h:Qj i (l.drop i) b v m=some m'):∃ ma mb,Gs (b&&i==1) v m=some ma∧Ij y ma=some mb∧Qj (i+1) (l.drop (i+1)) b v mb=some m':=by
 have hlt:=(List.getElem?_eq_some_iff.1 hy).1
 have e:l.drop i=y::l.drop (i+1):=by
  exact qqKn3
 rw[e] at h;unfold Qj at h ⊢;by_cases h0:i=0
 ·rw[if_pos h0,Il] at h;subst h0
  cases e1:Ij y m with
  | none=>rw[e1] at h;cases h
  | some m1 =>
   rw[e1] at h;refine⟨m,m1,?_,e1,(if_neg (Nat.succ_ne_zero 0)).trans ?_⟩
   ·cases b <;> rfl
   ·rw[show(b&&0+1==1)=b from by cases b <;> rfl];exact h
 ·rw[if_neg h0,Eu] at h
  cases e1:Gs (b&&i==1) v m with
  | none=>rw[e1] at h;cases h
  | some m1 =>
   rw[e1] at h;dsimp only at h
   cases e2:Ij y m1 with
   | none=>rw[e2] at h;cases h
   | some m2 =>
    rw[e2] at h;refine⟨m1,m2,rfl,e2,(if_neg (Nat.succ_ne_zero i)).trans ?_⟩;have:(i+1==1)=false:=by simpa using h0
    rw[this,Bool.and_false];exact h
theorem Rz{i:Nat}{b:Bool}{v m m':Int}(h:Qj i [] b v m=some m'):m=m':=by
 unfold Qj at h;split at h
 ·rw[Il] at h;exact Option.some.inj h
 ·rw[Eu] at h;exact Option.some.inj h
theorem R3{l:List (Bp×At)}{i:Nat}{p:Bp}{y:At}{m m':Int}(hy:l[i]?=some (p,y))(h:Fl (l.drop i) m=some m'):∃ ma mb,N4 p m=some ma∧Ij y ma=some mb∧Fl (l.drop (i+1)) mb=some m':=by
 have hlt:=(List.getElem?_eq_some_iff.1 hy).1
 have e:l.drop i=(p,y)::l.drop (i+1):=by
  exact qqKn3
 rw[e,Fl,Tf] at h
 cases e1:N4 p m with
 | none=>rw[e1] at h;cases h
 | some m1 =>
  rw[e1] at h;dsimp only at h
  cases e2:Ij y m1 with
  | none=>rw[e2] at h;cases h
  | some m2=>rw[e2] at h;exact⟨m1,m2,rfl,e2,h⟩
mutual
theorem Hf:∀ {x:At}{m m':Int},Ij x m=some m'→m≤m'∧m'≤m+zT x
 | .mk k a v n s ls args cases,m,m',h=>by
  rw[Ij] at h;rw[zT]
  cases e:Gs (k==7||k==10) v m with
  | none=>rw[e] at h;cases h
  | some m1 =>
   rw[e] at h;dsimp only at h;have h1:=Kj e
   cases e2:Il args (k==9||k==17) v m1 with
   | none=>rw[e2] at h;cases h
   | some m2 =>
    rw[e2] at h;dsimp only at h
    cases e3:Fl cases m2 with
    | none=>rw[e3] at h;cases h
    | some m3 =>
     rw[e3] at h;dsimp only at h;have h3:=Ld e3;split at h
     ·cases h
     ·cases h;by_cases hb:(k==9||k==17)=true
      ·have h2:=(Oo e2).1;have h4:=(Oo e2).2
       have hk:(k==7||k==10)=false:=by
        simp only[Bool.or_eq_true,beq_iff_eq] at hb;simp only[Bool.or_eq_false_iff,bN];omega
       rw[hk] at e;have:m1=m:=by unfold Gs at e;exact(Option.some.inj e).symm
       omega
      ·have h2:=(Oo e2).1;have h4:=numTs_le0 (by simpa using hb) e2;omega
theorem Oo:∀ {l:List At}{b:Bool}{v m m':Int},Il l b v m=some m'→m≤m'∧m'≤m+1+zTs l
 | [],b,v,m,m',h=>by rw[Il] at h;cases h;rw[zTs];omega
 | x::l,b,v,m,m',h=>by
  rw[Il] at h;rw[zTs]
  cases e:Ij x m with
  | none=>rw[e] at h;cases h
  | some m1 =>
   rw[e] at h;have h1:=Hf e;have h2:=R7 h;omega
theorem numTs_le0:∀ {l:List At}{b:Bool}{v m m':Int},b=false→Il l b v m=some m'→m'≤m+zTs l
 | [],b,v,m,m',_,h=>by rw[Il] at h;cases h;rw[zTs];omega
 | x::l,b,v,m,m',hb,h=>by
  rw[Il] at h;rw[zTs]
  cases e:Ij x m with
  | none=>rw[e] at h;cases h
  | some m1 =>
   rw[e] at h;have h1:=Hf e;have h2:=Pj hb h;omega
theorem R7:∀ {l:List At}{b:Bool}{v m m':Int},Eu l b v m=some m'→m≤m'∧m'≤m+1+zTs l
 | [],b,v,m,m',h=>by rw[Eu] at h;cases h;rw[zTs];omega
 | x::l,b,v,m,m',h=>by
  rw[Eu] at h;rw[zTs]
  cases e:Gs b v m with
  | none=>rw[e] at h;cases h
  | some m1 =>
   rw[e] at h;dsimp only at h
   cases e2:Ij x m1 with
   | none=>rw[e2] at h;cases h
   | some m2 =>
    rw[e2] at h;have h1:=Kj e;have h2:=Hf e2;have h3:=(R7 h).1;have h4:=Pj rfl h;omega
theorem Pj:∀ {l:List At}{b:Bool}{v m m':Int},b=false→Eu l b v m=some m'→m'≤m+zTs l
 | [],b,v,m,m',_,h=>by rw[Eu] at h;cases h;rw[zTs];omega
 | x::l,b,v,m,m',hb,h=>by
  subst hb;rw[Eu] at h;rw[zTs];have e:Gs false v m=some m:=rfl;rw[e] at h;dsimp only at h
  cases e2:Ij x m with
  | none=>rw[e2] at h;cases h
  | some m2 =>
   rw[e2] at h;have h2:=Hf e2;have h4:=Pj rfl h;omega
theorem Ld:∀ {l:List (Bp×At)}{m m':Int},Fl l m=some m'→m≤m'∧m'≤m+zCs l
 | [],m,m',h=>by rw[Fl] at h;cases h;rw[zCs];omega
 | x::l,m,m',h=>by
  rw[Fl] at h;rw[zCs]
  cases e:Tf x m with
  | none=>rw[e] at h;cases h
  | some m1 =>
   rw[e] at h;have h1:=numC_le e;have h2:=Ld h;omega
theorem numC_le:∀ {x:Bp×At}{m m':Int},Tf x m=some m'→m≤m'∧m'≤m+zA x
 | (p,x),m,m',h=>by
  rw[Tf] at h;rw[zA]
  cases e:N4 p m with
  | none=>rw[e] at h;cases h
  | some m1 =>
   rw[e] at h;have h1:=Lt e;have h2:=Hf h;omega
end
theorem Qs{i:Nat}{l:List At}{b:Bool}{v m m':Int}(h:Qj i l b v m=some m'):m≤m':=by
 unfold Qj at h;split at h
 ·exact(Oo h).1
 ·exact(R7 h).1
section
attribute [local go_sem ↓] Go.wp_at_zero Go.wp_at_succ
theorem Je{w0 W:World}{Q g o:Nat}(hg:g<w0.heap.size)(hQ:g≠Q)(hf:Fr [Q] w0 W){v0 v1 v2 v3 v4 v5 v6 v7:Value}(hc:∀ (j:Nat)(v:Value),[v0,v1,v2,v3,v4,v5,v6,v7][j]?=some v→w0.cell? ⟨g,o+j,none⟩=some v):
  W.cell? ⟨g,o,none⟩=some v0∧W.cell? ⟨g,o+1,none⟩=some v1∧W.cell? ⟨g,o+2,none⟩=some v2∧W.cell? ⟨g,o+3,none⟩=some v3∧W.cell? ⟨g,o+4,none⟩=some v4∧W.cell? ⟨g,o+5,none⟩=some v5∧W.cell? ⟨g,o+6,none⟩=some v6∧W.cell? ⟨g,o+7,none⟩=some v7:=by
 have h:∀ (j:Nat) (v:Value),[v0,v1,v2,v3,v4,v5,v6,v7][j]?=some v→W.cell? ⟨g,o+j,none⟩=some v:=fun j v hv=>(hf.cell (p:=⟨g,o+j,none⟩) hg (by simpa using hQ)).trans (hc j v hv)
 exact⟨h 0 _ rfl,h 1 _ rfl,h 2 _ rfl,h 3 _ rfl,h 4 _ rfl,h 5 _ rfl,h 6 _ rfl,h 7 _ rfl⟩
theorem Gv{w0 W:World}{Q g o:Nat}(hg:g<w0.heap.size)(hQ:g≠Q)(hf:Fr [Q] w0 W){v0 v1 v2 v3 v4 v5 v6 v7 v8 v9 v10 v11 v12 v13:Value}(hc:∀ (j:Nat)(v:Value),[v0,v1,v2,v3,v4,v5,v6,v7,v8,v9,v10,v11,v12,v13][j]?=some v→w0.cell? ⟨g,o+j,none⟩=some v):
  W.cell? ⟨g,o,none⟩=some v0∧W.cell? ⟨g,o+1,none⟩=some v1∧W.cell? ⟨g,o+2,none⟩=some v2∧W.cell? ⟨g,o+3,none⟩=some v3∧W.cell? ⟨g,o+4,none⟩=some v4∧W.cell? ⟨g,o+5,none⟩=some v5∧W.cell? ⟨g,o+6,none⟩=some v6∧W.cell? ⟨g,o+7,none⟩=some v7∧W.cell? ⟨g,o+8,none⟩=some v8∧W.cell? ⟨g,o+9,none⟩=some v9∧W.cell? ⟨g,o+10,none⟩=some v10∧W.cell? ⟨g,o+11,none⟩=some v11∧W.cell? ⟨g,o+12,none⟩=some v12∧W.cell? ⟨g,o+13,none⟩=some v13:=by
 have h:∀ (j:Nat) (v:Value),[v0,v1,v2,v3,v4,v5,v6,v7,v8,v9,v10,v11,v12,v13][j]?=some v→W.cell? ⟨g,o+j,none⟩=some v:=fun j v hv=>(hf.cell (p:=⟨g,o+j,none⟩) hg (by simpa using hQ)).trans (hc j v hv)
 exact⟨h 0 _ rfl,h 1 _ rfl,h 2 _ rfl,h 3 _ rfl,h 4 _ rfl,h 5 _ rfl,h 6 _ rfl,h 7 _ rfl,h 8 _ rfl,h 9 _ rfl,h 10 _ rfl,h 11 _ rfl,h 12 _ rfl,h 13 _ rfl⟩
theorem Ga{w:World}{Q:Nat}{m:Int}(h:Fo w Q m):Fo w.drew Q m:=h
theorem Lc(v:Int)(C Q:Nat)(w:World)(hc:w.cell? ⟨C,0,none⟩=some (.pointer (some ⟨Q,0,none⟩)))(hne:¬ C=Q)(hq:Fo w Q v)(h0:0≤v)(h1:v≤4611686018427387904):
  Calls prog 26 #[vI v,.pointer (some ⟨C,0,none⟩)] w fun e w'=>e = .returned (.bool true)∧Fo w' Q (v+1)∧Fr [Q] w w':=by
 have y0:=Ab hq 0;have y1:=Ap hq 0;have hl:=Aa hq;have I:∀ u,Fo (w.setCell ⟨Q,0,none⟩ (vI u)) Q u:=fun u=>Lg hq (vI u)
 have F:∀ u:Value,Fr [Q] w (w.setCell ⟨Q,0,none⟩ u):=fun u=>(Fr.refl [Q] w).setCell (p:=⟨Q,0,none⟩) (.inl sM) u
 have hne2:¬ Q=C:=fun e=>hne e.symm
 go_enter func26,ntmps26;go_wp2_with fail;go_ret;exact⟨rfl,I _,F _⟩
def NTC(N:Nat):Prop:=∀ (k a v n:Int)(s:LB)(ls:List LB)(args:List At)(cases:List (Bp×At))(A5 A6 A7:Option Addr)(c5 c6 c7:Nat)(m m':Int)(w:World)(ok:Nat→Prop)(Q:Nat),zT (.mk k a v n s ls args cases)<N→zT (.mk k a v n s ls args cases)≤1099511627775→Ij (.mk k a v n s ls args cases) m=some m'→Au w ok (.mk k a v n s ls args cases) [vI k,vI a,vI v,vI n,vS s,.slice A5 ls.length c5,.slice A6 args.length c6,.slice A7 cases.length c7]→¬ ok Q→Fo w Q m→0≤m→m'≤4611686018427387904 →
  Calls prog 12 #[.agg #[vI k,vI a,vI v,vI n,vS s,.slice A5 ls.length c5,.slice A6 args.length c6,.slice A7 cases.length c7],.pointer (some ⟨Q,0,none⟩)] w fun e w'=>e = .returned (.bool true)∧Fo w' Q m'∧Fr [Q] w w'
theorem numt_step(N:Nat)(ih:NTC N):NTC (N+1):=by
 intro k a v n s ls args cases A5 A6 A7 c5 c6 c7 m m' w ok Q hN hz hm hx hok hq h0 hb
 cases hx with
 | mk d5 d6 dp de h5 e5 h6 e6 h7 e7 e8 =>
 rw[zT] at hN hz;have hlen:=Y4 args;have hlen2:=Y3 cases;have b6:(args.length:Int)≤1099511627775:=by omega
 have b7:(cases.length:Int)≤1099511627775:=by omega
 have HN:=Hz hN;have HZ:=Hz hz;have IH:=Hz ih;have H6:=Hz h6;have H7:=Hz h7;have E6:Hid (∀ (i:Nat) (x:At),args[i]?=some x→Au w ok x (d6 i)):=Hz e6;have E7:Hid (∀ (i:Nat) (p:Bp) (x:At),cases[i]?=some (p,x)→Cs w ok p (dp i)):=Hz e7;have E8:Hid (∀ (i:Nat) (p:Bp) (x:At),cases[i]?=some (p,x)→Au w ok x (de i)):=Hz e8;have HOK:=Hz hok;rw[Ij] at hm
 obtain⟨m1,m2,hm1,hm2,hm3,hfin⟩:∃ m1 m2,Gs (k==7||k==10) v m=some m1∧Qj 0 args (k==9||k==17) v m1=some m2∧Fl cases m2=some m'∧(k=1→v<m'):=by
  cases e1:Gs (k==7||k==10) v m with
  | none=>rw[e1] at hm;cases hm
  | some m1 =>
   rw[e1] at hm;dsimp only at hm
   cases e2:Il args (k==9||k==17) v m1 with
   | none=>rw[e2] at hm;cases hm
   | some m2 =>
    rw[e2] at hm;dsimp only at hm
    cases e3:Fl cases m2 with
    | none=>rw[e3] at hm;cases hm
    | some m3 =>
     rw[e3] at hm;dsimp only at hm;split at hm
     ·cases hm
     ·rename_i c
      cases hm;exact⟨m1,m2,rfl,e2,e3,fun e=>Decidable.not_not.1 (fun c'=>c ⟨e,c'⟩)⟩
 have hle1:=Kj hm1;have hle2:=Qs hm2;have hle3:=(Ld hm3).1;have HA:Hid (Qj 0 (args.drop 0) (k==9||k==17) v m1=some m2):=Hz hm2;have HC:Hid (Fl (cases.drop 0) m2=some m'):=Hz hm3;have hQw:Q<w.heap.size:=Aa hq;have f0:=((Fr.refl [] w).alloc (.cells #[vI k,vI a,vI v,vI n,vS s,.slice A5 ls.length c5,.slice A6 args.length c6,.slice A7 cases.length c7] 34)).alloc (.cells #[.pointer (some ⟨Q,0,none⟩)] 42);have q0:=Ae (Ag w (.cells #[vI k,vI a,vI v,vI n,vS s,.slice A5 ls.length c5,.slice A6 args.length c6,.slice A7 cases.length c7] 34)) (.cells #[.pointer (some ⟨Q,0,none⟩)] 42);have qp:=Ag (w.alloc (.cells #[vI k,vI a,vI v,vI n,vS s,.slice A5 ls.length c5,.slice A6 args.length c6,.slice A7 cases.length c7] 34)) (.cells #[.pointer (some ⟨Q,0,none⟩)] 42);rw[World.size_alloc] at qp;have q1:=f0.keep hq nE;have F0:Hid (Fr [Q] w ((w.alloc (.cells #[vI k,vI a,vI v,vI n,vS s,.slice A5 ls.length c5,.slice A6 args.length c6,.slice A7 cases.length c7] 34)).alloc (.cells #[.pointer (some ⟨Q,0,none⟩)] 42))):=Hz (f0.mono (fun x hx=>by cases hx))
 have hk2:((k==7)=true∧v=m∧m1=m+1)∨((k==7)=false∧(k==10)=true∧v=m∧m1=m+1)∨((k==7)=false∧(k==10)=false∧m1=m):=by
  unfold Gs at hm1;cases e7:(k==7)<;> cases e10:(k==10)<;> rw[e7,e10] at hm1
  ·exact .inr (.inr ⟨rfl,rfl,(Option.some.inj hm1).symm⟩)
  all_goals
   rw[if_pos rF] at hm1;by_cases e2:v=m
   ·rw[if_pos e2] at hm1;have:=(Option.some.inj hm1).symm
    first|exact .inl ⟨rfl,e2,this⟩| exact .inr (.inl ⟨rfl,rfl,e2,this⟩)
   ·rw[if_neg e2] at hm1;cases hm1
 have hf2:((k != 1)=true)∨(k=1∧v<m'):=by
  by_cases e:k=1
  ·exact .inr ⟨e,hfin e⟩
  ·exact .inl (by simp[e])
 clear hN hz ih h5 e5 h6 e6 h7 e7 e8 hq hok hm hm1 hm2 hm3 hlen hlen2 f0 hfin;generalize hx0:(w.alloc (.cells #[vI k,vI a,vI v,vI n,vS s,.slice A5 ls.length c5,.slice A6 args.length c6,.slice A7 cases.length c7] 34)).alloc (.cells #[.pointer (some ⟨Q,0,none⟩)] 42)=x at q0 qp q1 F0;generalize hT:w.heap.size=T at q0 qp;have hTx:=Aa qp;have hQT:Q<T:=by omega
 have nQ:¬ T=Q:=by omega
 have nQ1:¬ T+1=Q:=by omega
 have nQ2:¬ Q=T:=by omega
 have nQ3:¬ Q=T+1:=by omega
 obtain⟨⟨l0,l1,l2,l3,l4,l5,l6,l7⟩,_⟩:=Ac q0;have lp:=Ab qp 0
 rcases hk2 with⟨k7,rfl,rfl⟩| ⟨k7,k10,rfl,rfl⟩| ⟨k7,k10,rfl⟩
 ·exact qqKn5
 ·exact qqKn5
 ·go_enter func12,ntmps12;go_wp2_with fail;have HI:=Hz q1;have HF:=Hz (Fr.refl [Q] x);exact qqKn1
theorem Xw:∀ N,NTC N
 | 0=>by intro _ _ _ _ _ _ _ _ _ _ _ _ _ _ _ _ _ _ _ h;exact absurd h (Nat.not_lt_zero _)
 | N+1=>numt_step N (Xw N)
theorem Oe(s:ByteArray)(hs:s.size≤140737488355328)(w:World)(hE:E1 w):
  Calls prog 5 #[.string s] w fun e w'=>e = .returned (.bool true)∧Fr [] w w':=by
 have HE:=Hz hE;have cA:=fun w hE=>Hz (Za w hE)
 have c1:=fun w hE=>Hz (Nv s oM w hE)
 clear hE;go_enter func5,ntmps5;go_wp2_with fail;refine(cA _ HE.out).out.mono ?_;rintro e w1 ⟨rfl,f1⟩;go_wp2_with fail;refine(c1 _ (HE.out.fr f1)).out.mono ?_;rintro e w2 ⟨k1,a1,nm1,n1,s1,ls1,args1,arms1,A51,c51,A61,c61,A71,c71,er1,at1,rfl,hx1,hpr,f2⟩;have f3:=f1.trans f2;clear f1 f2 cA c1;by_cases h0:er1=0
 ·subst h0;have c2:=fun w hV hx=>Hz (Nw k1 a1 nm1 n1 s1 ls1 args1 arms1 A51 A61 A71 c51 c61 c71 hpr w hV hx)
  have hm:=pr_may hpr;have fb:=(Fr.refl [] w2).alloc (.cells #[vI k1,vI a1,vS nm1,vI n1,vS s1,.slice A51 ls1.length c51,.slice A61 args1.length c61,.slice A71 arms1.length c71] 27);have HX:=Hz (hx1.fr fb);have F1:=f3.trans fb
  obtain⟨R,hR⟩:∃ R,Ql (.mk k1 a1 nm1 n1 s1 ls1 args1 arms1)=R:=⟨_,rfl⟩
  have hz:=tmE_z (.mk k1 a1 nm1 n1 s1 ls1 args1 arms1) .zero;have hb:=fun he=>res_bound (x:=.mk k1 a1 nm1 n1 s1 ls1 args1 arms1) hm.1 he
  obtain⟨T,f,p⟩:=R;have hok:=resR_ok hR;have HR:=Hz hR;clear hx1 hpr hR f3 fb
  generalize tmE (.mk k1 a1 nm1 n1 s1 ls1 args1 arms1) .zero=M at *
  have hm2:=hm.2.1;clear hm;go_wp2_with fail
  generalize w2.alloc _=y1 at *
  generalize w2.heap.size=T1 at *
  refine(c2 _ (HE.out.fr F1) HX.out).out.mono ?_;rintro e w3 ⟨k,a,v,n,s',B5,n5,d5,B6,n6,d6,B7,n7,d7,rfl,ht,g1⟩;rw[HR.out] at ht ⊢;dsimp only at ht ⊢;have F2:=F1.trans g1;clear c2 HX HR;by_cases hf:f=0
  ·obtain⟨e1,e2⟩:=hok hf;obtain⟨m',hn⟩:=hb e1;subst hf e2;obtain⟨TT,SS⟩:=M;dsimp only at hz ht hn;obtain⟨kk,aa,vv,nn,ss,lls,aargs,ccases⟩:=TT;have ht0:=ht.keep (w':=w3) (ok':=fun b=>b<w3.heap.size) (fun b _ hb=>⟨hb,rfl,hb⟩)
   cases ht with
   | mk c5' c6' cp ce h5 e5 h6 e6 h7 e7 e8 =>
   obtain rfl:=h5.len;obtain rfl:=h6.len;obtain rfl:=h7.len;clear h5 e5 h6 e6 h7 e7 e8 hb hok;have q4:=Ae (Ag w3 (.cells #[vI k,vI a,vI v,vI n,vS ss,.slice B5 lls.length d5,.slice B6 aargs.length d6,.slice B7 ccases.length d7] 34)) (.cells #[vI 0] 3);have i4:=Ag (w3.alloc (.cells #[vI k,vI a,vI v,vI n,vS ss,.slice B5 lls.length d5,.slice B6 aargs.length d6,.slice B7 ccases.length d7] 34)) (.cells #[vI 0] 3);rw[World.size_alloc] at i4;have fb:=((Fr.refl [] w3).alloc (.cells #[vI k,vI a,vI v,vI n,vS ss,.slice B5 lls.length d5,.slice B6 aargs.length d6,.slice B7 ccases.length d7] 34)).alloc (.cells #[vI 0] 3);have hle:=Hf hn;have cN:=Hz (Xw _ k a v n ss lls aargs ccases B5 B6 B7 d5 d6 d7 0 m' _ (fun b=>b<w3.heap.size) (w3.heap.size+1) (Nat.lt_succ_self _) oM hn (ht0.keep (ok':=fun b=>b<w3.heap.size) (Sh.of_fr fb (fun b hb _=>⟨hb,fun x=>by cases x⟩))) oM i4 (Int.le_refl _) oM);obtain⟨⟨l0,l1,l2,l3,l4,l5,l6,l7⟩,_⟩:=Ac q4;have hsz:=F2.size;clear ht0 hn hz e1 hle;go_wp2_with fail;refine cN.out.mono ?_;rintro e w6 ⟨rfl,I6,f6⟩;go_wp2_with fail;go_ret;exact⟨rfl,(F2.trans fb).step f6 (fun x hx => .inr (by simp at hx;omega))⟩
  ·have hf2:(f != 0)=true:=bne_iff_ne.2 hf;clear hb hok;go_wp2_with fail;go_ret;exact⟨rfl,F2.alloc _⟩
 ·have h2:(er1 != 0)=true:=bne_iff_ne.2 h0;go_wp2_with fail;go_ret;exact⟨rfl,f3.alloc _⟩
end
end Go.Proofs.YtlafbbnikgcdlaaGreatDoor
