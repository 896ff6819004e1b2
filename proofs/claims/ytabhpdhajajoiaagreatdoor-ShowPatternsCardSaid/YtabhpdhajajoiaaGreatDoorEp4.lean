/- A pattern's text, or what is wrong first, is as the reference says: proved for every input. -/
import Derived.Test.YtabhpdhajajoiaaGreatDoorEp2
import Derived.Test.YtabhpdhajajoiaaGreatDoorEp3
namespace Go.Proofs.YtabhpdhajajoiaaGreatDoor
open Go.RowKit
set_option linter.all false
set_option maxHeartbeats 16000000
set_option maxRecDepth 100000
section
open Go.ChangeShapes Go.WideShapes Go.ChangeAt Go.ChangeMaps Go.RowKit
section
theorem showPatterns_reads(os:Os){H:Type}(enc:TypeId×Value→H):∃ places,DataW.whole enc Tryz.prog ((Lu os).forCall (fun _ _=>0) ⟨#[],#[.agg #[.int .i64 0,.int .i64 0,.string ⟨#[]⟩,.int .i64 0,.string ⟨#[]⟩,.slice none 0 0,.slice none 0 0]],[]⟩).memory Tryz.f3.params.toList Rows.showPatternsSpec.vars false (#[.agg #[.int .i64 0,.int .i64 0,.string ⟨#[]⟩,.int .i64 0,.string ⟨#[]⟩,.slice none 0 0,.slice none 0 0]]:Array Value).toList 8=some ([.agg [.lit (.int .i64 0),.lit (.int .i64 0),.lit (.string []),.lit (.int .i64 0),.lit (.string []),.nil,.nil]],[],places):=
 ⟨[],by kernel_rfl⟩
set_option maxRecDepth 100000 in
theorem showPatterns_contract(H:Type)(enc:TypeId×Value→H)(W:World)(base:Nat)(args:Array Value)(ds gs:List (DataW H))(before:List MemPlace)
  (hval:∀ (j:Nat) t v,Tryz.f3.params[j]?=some t→args[j]?=some v→Value.okWide Tryz.prog W .any base t v)
  (hW:DataW.Whole enc Tryz.prog Tryz.f3.params.toList Rows.showPatternsSpec.vars false W args.toList ds gs before) (hsz:(DataW.weightsEach Tryz.prog (Tryz.f3.params.toList++Rows.showPatternsSpec.plain.varTypes Tryz.prog) (ds++gs)).all (·≤reachBytes)=true) (hL:laidMetH Tryz.prog Rows.showPatternsRow.laid W) (hS:W.ShapedOpen Tryz.prog):
  Calls Tryz.prog 3 args W fun e W'=>∃ v,e = .returned v∧Rows.showPatternsSpec.post enc Tryz.prog Tryz.f3 false true false false W args v W':=by
 have hE:=Sm hL hS
 have hW':=hW
 obtain⟨p,q,hA0,hV,rfl,hfz,hnd⟩:=hW
 have hA:DataW.TrodAll enc Tryz.prog W 0 (fun _=>true) true Tryz.f3.params.toList args.toList ds p:=hA0
 rw[Tryz.params3] at hA hval hsz
 obtain⟨v0,vs0,d0,ds0,p0,q0,hargs,rfl,rfl,t0,r0⟩:=trodAll_cons hA
 obtain⟨rfl,rfl,rfl⟩:=trodAll_nil r0
 obtain rfl:args = #[v0]:=by cases args;simp_all
 obtain⟨rfl,rfl⟩:=trodVars_none hV
 have tkx:=t0
 obtain⟨csx,rfl⟩:=Se Tryz.underlying25 (hval 0 25 v0 rfl rfl)
 obtain⟨kx,ax,nmx,nx,sx,lsx,argsx,A5x,n5x,c5x,A6x,n6x,c6x,rfl,xt,xw⟩:=S3 t0 (Tl hsz (j:=0) rfl rfl)
 have hltx:∀ z ∈ p0,z.block<W.heap.size:=fun z hz=>hW'.lt z (by simp[hz])
 clear hA0
 simp only[List.append_nil] at hW'
 refine(ShowPatterns_walk _ _ _ _ _ _ _ _ _ _ _ _ _ W hE xt xw).mono fun e W' ⟨he,hf⟩=>?_
 subst he
 refine⟨_,rfl,_,_,_,[],p0++([]),[],hW',?_,?_,rfl,hf.below0.frame _,fun h=>by cases h⟩
 ·exact trodAll_cons_mk (shut_bool Tryz.underlying4 _) trodAll_mk0
 ·exact trodAll_cons_mk (Below.trod Ly (by kernel_rfl) (of_decide_eq_true (by kernel_rfl)) tkx hf.below0 hltx) trodAll_mk0
set_option maxRecDepth 100000 in
theorem showPatterns_lifted(os:Os)(started:os.Started)(H:Type)(enc:TypeId×Value→H)(F:Stop.Interp):
  ReturnsInHanded {} Tryz.checked os 3 .any ((OpenSpec.ofChange Rows.showPatternsSpec).preRow enc Tryz.prog Tryz.f3 Rows.showPatternsRow.domain false Rows.showPatternsRow.laid) (((OpenSpec.ofChange Rows.showPatternsSpec).at F).post enc Tryz.prog Tryz.f3 false true false false):=by
 obtain⟨places,hx⟩:=showPatterns_reads os enc
 refine returnsInHanded_of_row (C:=Tryz.checked) (s:=OpenSpec.ofChange Rows.showPatternsSpec) own started (by kernel_rfl) Tryz.func3
  (witness_row_atRef (enc:=enc) (C:=Tryz.checked) false (Lu os) #[.agg #[.int .i64 0,.int .i64 0,.string ⟨#[]⟩,.int .i64 0,.string ⟨#[]⟩,.slice none 0 0,.slice none 0 0]] rfl (by kernel_rfl) (by kernel_rfl) (by kernel_rfl)
   (OpenSpec.preRow_of_cond 8 hx (by kernel_rfl) (fun k hk=>by cases hk) (by kernel_rfl) (Lz os _))) ?_
 intro W base args ds gs before hval hW _ _ hsz hL hS _
 exact showPatterns_contract H enc W base args ds gs before hval hW hsz hL hS
theorem showPatterns_said:Rows.ShowPatternsSaid :=
 OpenClaim.holds_of_cond 3 Tryz.f3 rfl rfl rfl rfl rfl rfl rfl ⟨rfl,rfl,rfl,rfl,rfl⟩ rfl rfl rfl rfl rfl (by kernel_rfl) Tryz.func3 showPatterns_facts
  (of_decide_eq_true (by kernel_rfl)) (by unfold Func.isWrapper;first|(rw[if_pos (by decide +kernel)];kernel_rfl)| (rw[if_neg (by decide +kernel)];exact⟨rfl,rfl⟩))
  (fun os started H enc _ F=>by rw[OpenClaim.pre_eq_preRow];exact showPatterns_lifted os started H enc F)
theorem showPatterns_plain (f : FuncId) (fn : Func) (hf : Tryz.pinned.checked.prog.funcNamed "marquetry/marquetrylaw07.ShowPatterns" = some f) (hfn : Tryz.pinned.checked.prog.funcs[f]? = some fn) :
  true=Tryz.pinned.checked.prog.looks []∧∀ (j:Nat) t,fn.params[j]?=some t→Tryz.pinned.checked.prog.wantsStandIn t=false:=by
 obtain rfl : f = 3 := Option.some.inj ((show Tryz.prog.funcNamed "marquetry/marquetrylaw07.ShowPatterns" = some 3 by kernel_rfl).symm.trans hf) |>.symm
 obtain rfl:fn=Tryz.f3:=(Option.some.inj (Tryz.func3.symm.trans hfn)).symm
 refine⟨by kernel_rfl,fun j t ht=>?_⟩
 rw[Tryz.params3] at ht
 have hm:t ∈ [25]:=by simpa using Array.mem_of_getElem? ht
 have hall:([25].all fun u=>!Tryz.prog.wantsStandIn u)=true:=by kernel_rfl
 exact(show Tryz.prog.wantsStandIn t=false by simpa using List.all_eq_true.1 hall t hm)
theorem showPatterns_card:Rows.ShowPatternsCardSaid :=
 Claim7.holds_tied_plain_at .later [] _ _ _ _ showPatterns_said (fun _ h=>by cases h) (by kernel_rfl) (fun _ h=>by cases h) showPatterns_row_tie rfl ⟨rfl,rfl⟩ (by kernel_rfl) rfl showPatterns_plain (by kernel_rfl)
end
end
end Go.Proofs.YtabhpdhajajoiaaGreatDoor
