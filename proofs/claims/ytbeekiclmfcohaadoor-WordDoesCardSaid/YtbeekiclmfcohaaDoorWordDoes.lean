/- Layer 1: WordDoes: the row and the card. -/
import Derived.Test.YtbeekiclmfcohaaDoorWr
namespace Go.Proofs.YtbeekiclmfcohaaDoor
open Go.ChangeShapes Go.WideShapes Go.ChangeAt Go.ChangeMaps Go.RowKit

/-! ### WordDoes -/
section
theorem wordDoes_reads (os : Os) {H : Type} (enc : TypeId × Value → H) : ∃ places, DataW.whole enc Tryd.prog ((doorW os).forCall (fun _ _ => 0) ⟨#[], #[.int .i64 0, .int .i64 0, .int .i64 0], []⟩).memory Tryd.f4.params.toList Rows.wordDoesSpec.vars false (#[.int .i64 0, .int .i64 0, .int .i64 0] : Array Value).toList 8 = some ([.lit (.int .i64 0), .lit (.int .i64 0), .lit (.int .i64 0)], [], places) :=
  ⟨[], by kernel_rfl⟩
set_option maxRecDepth 100000 in
theorem wordDoes_contract (H : Type) (enc : TypeId × Value → H) (W : World) (base : Nat) (args : Array Value) (ds gs : List (DataW H)) (before : List MemPlace)
    (hval : ∀ (j : Nat) t v, Tryd.f4.params[j]? = some t → args[j]? = some v → Value.okWide Tryd.prog W .any base t v)
    (hW : DataW.Whole enc Tryd.prog Tryd.f4.params.toList Rows.wordDoesSpec.vars false W args.toList ds gs before) (hL : laidMetH Tryd.prog Rows.wordDoesRow.laid W) (hS : W.ShapedOpen Tryd.prog) :
    Calls Tryd.prog 4 args W fun e W' => ∃ v, e = .returned v ∧ Rows.wordDoesSpec.post enc Tryd.prog Tryd.f4 false true false false W args v W' := by
  have hE := env_of hL hS
  have hW' := hW
  obtain ⟨p, q, hA0, hV, rfl, hfz, hnd⟩ := hW
  have hA : DataW.TrodAll enc Tryd.prog W 0 (fun _ => true) true Tryd.f4.params.toList args.toList ds p := hA0
  rw [Tryd.params4] at hA hval
  obtain ⟨v0, vs0, d0, ds0, p0, q0, hargs, rfl, rfl, t0, r0⟩ := trodAll_cons hA
  obtain ⟨v1, vs1, d1, ds1, p1, q1, rfl, rfl, rfl, t1, r1⟩ := trodAll_cons r0
  obtain ⟨v2, vs2, d2, ds2, p2, q2, rfl, rfl, rfl, t2, r2⟩ := trodAll_cons r1
  obtain ⟨rfl, rfl, rfl⟩ := trodAll_nil r2
  obtain rfl : args = #[v0, v1, v2] := by cases args; simp_all
  obtain ⟨rfl, rfl⟩ := trodVars_none hV
  obtain ⟨op, rfl, rfl, rfl, hop⟩ := open_int Tryd.underlying3 (hval 0 3 v0 rfl rfl) t0
  obtain ⟨a, rfl, rfl, rfl, ha⟩ := open_int Tryd.underlying2 (hval 1 2 v1 rfl rfl) t1
  obtain ⟨b, rfl, rfl, rfl, hb⟩ := open_int Tryd.underlying2 (hval 2 2 v2 rfl rfl) t2
  clear hA0
  simp only [List.append_nil] at hW'
  refine (WordDoes_walk op a b (i64_wf ha).1 (i64_wf ha).2 (i64_wf hb).1 (i64_wf hb).2 W hE).mono fun e W' ⟨he, hf⟩ => ?_
  subst he
  refine ⟨_, rfl, _, _, _, [], [], [], hW', ?_, ?_, rfl, hf.below0.frame _, fun h => by cases h⟩
  · exact trodAll_cons_mk (shut_bool Tryd.underlying4 _) trodAll_mk0
  · exact trodAll_cons_mk (shut_int Tryd.underlying3 hop) (trodAll_cons_mk (shut_int Tryd.underlying2 ha) (trodAll_cons_mk (shut_int Tryd.underlying2 hb) trodAll_mk0))

set_option maxRecDepth 100000 in
theorem wordDoes_lifted (os : Os) (started : os.Started) (H : Type) (enc : TypeId × Value → H) (F : Stop.Interp) :
    ReturnsInHanded {} Tryd.checked os 4 .any ((OpenSpec.ofChange Rows.wordDoesSpec).preRow enc Tryd.prog Tryd.f4 Rows.wordDoesRow.domain false Rows.wordDoesRow.laid) (((OpenSpec.ofChange Rows.wordDoesSpec).at F).post enc Tryd.prog Tryd.f4 false true false false) := by
  obtain ⟨places, hx⟩ := wordDoes_reads os enc
  refine returnsInHanded_of_row (C := Tryd.checked) (s := OpenSpec.ofChange Rows.wordDoesSpec) own started (by kernel_rfl) Tryd.func4
    (witness_row_atRef (enc := enc) (C := Tryd.checked) false (doorW os) #[.int .i64 0, .int .i64 0, .int .i64 0] rfl (by kernel_rfl) (by kernel_rfl) (by kernel_rfl)
      (OpenSpec.preRow_of_cond 8 hx (by kernel_rfl) (fun k hk => by cases hk) (by kernel_rfl) (laid_met os _))) ?_
  intro W base args ds gs before hval hW _ _ _ hL hS _
  exact wordDoes_contract H enc W base args ds gs before hval hW hL hS

theorem wordDoes_said : Rows.WordDoesSaid :=
  OpenClaim.holds_of_cond 4 Tryd.f4 rfl rfl rfl rfl rfl rfl rfl ⟨rfl, rfl, rfl, rfl, rfl⟩ rfl rfl rfl rfl rfl (by kernel_rfl) Tryd.func4 (by kernel_rfl)
    (of_decide_eq_true (by kernel_rfl)) (by unfold Func.isWrapper; first | (rw [if_pos (by decide +kernel)]; kernel_rfl) | (rw [if_neg (by decide +kernel)]; exact ⟨rfl, rfl⟩))
    (fun os started H enc _ F => by rw [OpenClaim.pre_eq_preRow]; exact wordDoes_lifted os started H enc F)

theorem wordDoes_plain (f : FuncId) (fn : Func) (hf : Tryd.pinned.checked.prog.funcNamed "marquetry/marquetrylaw01.WordDoes" = some f) (hfn : Tryd.pinned.checked.prog.funcs[f]? = some fn) :
    true = Tryd.pinned.checked.prog.looks [] ∧ ∀ (j : Nat) t, fn.params[j]? = some t → Tryd.pinned.checked.prog.wantsStandIn t = false := by
  obtain rfl : f = 4 := Option.some.inj ((show Tryd.prog.funcNamed "marquetry/marquetrylaw01.WordDoes" = some 4 by kernel_rfl).symm.trans hf) |>.symm
  obtain rfl : fn = Tryd.f4 := (Option.some.inj (Tryd.func4.symm.trans hfn)).symm
  refine ⟨by kernel_rfl, fun j t ht => ?_⟩
  rw [Tryd.params4] at ht
  have hm : t ∈ [3, 2, 2] := by simpa using Array.mem_of_getElem? ht
  have hall : ([3, 2, 2].all fun u => !Tryd.prog.wantsStandIn u) = true := by kernel_rfl
  exact (show Tryd.prog.wantsStandIn t = false by simpa using List.all_eq_true.1 hall t hm)

/-- THE CARD -/
theorem wordDoes_card : Rows.WordDoesCardSaid :=
  Claim7.holds_tied_plain_at .later [] _ _ _ _ wordDoes_said (fun _ h => by cases h) (by kernel_rfl) (fun _ h => by cases h) wordDoes_row_tie rfl ⟨rfl, rfl⟩ (by kernel_rfl) rfl wordDoes_plain (by kernel_rfl)
end
end Go.Proofs.YtbeekiclmfcohaaDoor
