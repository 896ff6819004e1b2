/- Layer 1: WordRing: the row and the card. -/
import Derived.Test.YtbeekiclmfcohaaDoorWr
namespace Go.Proofs.YtbeekiclmfcohaaDoor
open Go.ChangeShapes Go.WideShapes Go.ChangeAt Go.ChangeMaps Go.RowKit

/-! ### WordRing -/
section
theorem wordRing_reads (os : Os) {H : Type} (enc : TypeId × Value → H) : ∃ places, DataW.whole enc Tryd.prog ((doorW os).forCall (fun _ _ => 0) ⟨#[], #[.int .i64 0, .int .i64 0, .int .i64 0], []⟩).memory Tryd.f8.params.toList Rows.wordRingSpec.vars false (#[.int .i64 0, .int .i64 0, .int .i64 0] : Array Value).toList 8 = some ([.lit (.int .i64 0), .lit (.int .i64 0), .lit (.int .i64 0)], [], places) :=
  ⟨[], by kernel_rfl⟩
set_option maxRecDepth 100000 in
theorem wordRing_contract (H : Type) (enc : TypeId × Value → H) (W : World) (base : Nat) (args : Array Value) (ds gs : List (DataW H)) (before : List MemPlace)
    (hval : ∀ (j : Nat) t v, Tryd.f8.params[j]? = some t → args[j]? = some v → Value.okWide Tryd.prog W .any base t v)
    (hW : DataW.Whole enc Tryd.prog Tryd.f8.params.toList Rows.wordRingSpec.vars false W args.toList ds gs before) (hL : laidMetH Tryd.prog Rows.wordRingRow.laid W) (hS : W.ShapedOpen Tryd.prog) :
    Calls Tryd.prog 8 args W fun e W' => ∃ v, e = .returned v ∧ Rows.wordRingSpec.post enc Tryd.prog Tryd.f8 false true false false W args v W' := by
  have hE := env_of hL hS
  have hW' := hW
  obtain ⟨p, q, hA0, hV, rfl, hfz, hnd⟩ := hW
  have hA : DataW.TrodAll enc Tryd.prog W 0 (fun _ => true) true Tryd.f8.params.toList args.toList ds p := hA0
  rw [Tryd.params8] at hA hval
  obtain ⟨v0, vs0, d0, ds0, p0, q0, hargs, rfl, rfl, t0, r0⟩ := trodAll_cons hA
  obtain ⟨v1, vs1, d1, ds1, p1, q1, rfl, rfl, rfl, t1, r1⟩ := trodAll_cons r0
  obtain ⟨v2, vs2, d2, ds2, p2, q2, rfl, rfl, rfl, t2, r2⟩ := trodAll_cons r1
  obtain ⟨rfl, rfl, rfl⟩ := trodAll_nil r2
  obtain rfl : args = #[v0, v1, v2] := by cases args; simp_all
  obtain ⟨rfl, rfl⟩ := trodVars_none hV
  obtain ⟨a, rfl, rfl, rfl, ha⟩ := open_int Tryd.underlying2 (hval 0 2 v0 rfl rfl) t0
  obtain ⟨b, rfl, rfl, rfl, hb⟩ := open_int Tryd.underlying2 (hval 1 2 v1 rfl rfl) t1
  obtain ⟨c, rfl, rfl, rfl, hc⟩ := open_int Tryd.underlying2 (hval 2 2 v2 rfl rfl) t2
  clear hA0
  simp only [List.append_nil] at hW'
  refine (WordRing_walk a b c W hE).mono fun e W' ⟨he, hf⟩ => ?_
  subst he
  refine ⟨_, rfl, _, _, _, [], [], [], hW', ?_, ?_, rfl, hf.below0.frame _, fun h => by cases h⟩
  · exact trodAll_cons_mk (shut_bool Tryd.underlying4 _) trodAll_mk0
  · exact trodAll_cons_mk (shut_int Tryd.underlying2 ha) (trodAll_cons_mk (shut_int Tryd.underlying2 hb) (trodAll_cons_mk (shut_int Tryd.underlying2 hc) trodAll_mk0))

set_option maxRecDepth 100000 in
theorem wordRing_lifted (os : Os) (started : os.Started) (H : Type) (enc : TypeId × Value → H) (F : Stop.Interp) :
    ReturnsInHanded {} Tryd.checked os 8 .any ((OpenSpec.ofChange Rows.wordRingSpec).preRow enc Tryd.prog Tryd.f8 Rows.wordRingRow.domain false Rows.wordRingRow.laid) (((OpenSpec.ofChange Rows.wordRingSpec).at F).post enc Tryd.prog Tryd.f8 false true false false) := by
  obtain ⟨places, hx⟩ := wordRing_reads os enc
  refine returnsInHanded_of_row (C := Tryd.checked) (s := OpenSpec.ofChange Rows.wordRingSpec) own started (by kernel_rfl) Tryd.func8
    (witness_row_atRef (enc := enc) (C := Tryd.checked) false (doorW os) #[.int .i64 0, .int .i64 0, .int .i64 0] rfl (by kernel_rfl) (by kernel_rfl) (by kernel_rfl)
      (OpenSpec.preRow_of_cond 8 hx (by kernel_rfl) (fun k hk => by cases hk) (by kernel_rfl) (laid_met os _))) ?_
  intro W base args ds gs before hval hW _ _ _ hL hS _
  exact wordRing_contract H enc W base args ds gs before hval hW hL hS

theorem wordRing_said : Rows.WordRingSaid :=
  OpenClaim.holds_of_cond 8 Tryd.f8 rfl rfl rfl rfl rfl rfl rfl ⟨rfl, rfl, rfl, rfl, rfl⟩ rfl rfl rfl rfl rfl (by kernel_rfl) Tryd.func8 (by kernel_rfl)
    (of_decide_eq_true (by kernel_rfl)) (by unfold Func.isWrapper; first | (rw [if_pos (by decide +kernel)]; kernel_rfl) | (rw [if_neg (by decide +kernel)]; exact ⟨rfl, rfl⟩))
    (fun os started H enc _ F => by rw [OpenClaim.pre_eq_preRow]; exact wordRing_lifted os started H enc F)

theorem wordRing_plain (f : FuncId) (fn : Func) (hf : Tryd.pinned.checked.prog.funcNamed "marquetry/marquetrylaw01.WordRing" = some f) (hfn : Tryd.pinned.checked.prog.funcs[f]? = some fn) :
    true = Tryd.pinned.checked.prog.looks [] ∧ ∀ (j : Nat) t, fn.params[j]? = some t → Tryd.pinned.checked.prog.wantsStandIn t = false := by
  obtain rfl : f = 8 := Option.some.inj ((show Tryd.prog.funcNamed "marquetry/marquetrylaw01.WordRing" = some 8 by kernel_rfl).symm.trans hf) |>.symm
  obtain rfl : fn = Tryd.f8 := (Option.some.inj (Tryd.func8.symm.trans hfn)).symm
  refine ⟨by kernel_rfl, fun j t ht => ?_⟩
  rw [Tryd.params8] at ht
  have hm : t ∈ [2, 2, 2] := by simpa using Array.mem_of_getElem? ht
  have hall : ([2, 2, 2].all fun u => !Tryd.prog.wantsStandIn u) = true := by kernel_rfl
  exact (show Tryd.prog.wantsStandIn t = false by simpa using List.all_eq_true.1 hall t hm)

/-- THE CARD -/
theorem wordRing_card : Rows.WordRingCardSaid :=
  Claim7.holds_tied_plain_at .later [] _ _ _ _ wordRing_said (fun _ h => by cases h) (by kernel_rfl) (fun _ h => by cases h) wordRing_row_tie rfl ⟨rfl, rfl⟩ (by kernel_rfl) rfl wordRing_plain (by kernel_rfl)
end
end Go.Proofs.YtbeekiclmfcohaaDoor
