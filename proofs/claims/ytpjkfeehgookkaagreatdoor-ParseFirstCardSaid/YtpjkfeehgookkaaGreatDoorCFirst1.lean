/- Where a text is wrong first does not change by what stands behind that place: proved for every input. -/
import Derived.Lib.ConvBytes
import Derived.Test.YtpjkfeehgookkaaGreatDoorCb6
namespace Go.Proofs.YtpjkfeehgookkaaGreatDoor
open Go.RowKit
theorem BI.frame {w : World} {b : Nat} {r : Option (Nat × Obj)} {l : List UInt8} {wr : World} (h : BI w b r l wr) : Fr [] w wr := by
 obtain ⟨own, _, _, _, hf, _⟩ := h
 exact hf
end Go.Proofs.YtpjkfeehgookkaaGreatDoor
namespace Go.Proofs.YtpjkfeehgookkaaGreatDoor
open Go.RowKit
attribute [local go_sem ↓] Go.wp_at_zero Go.wp_at_succ
theorem split6_list (a b : ByteArray) : (a ++ ⟨#[32]⟩ ++ b).data.toList = a.data.toList ++ 32 :: b.data.toList := by
 simp [ByteArray.data_append]
theorem split6_size (a b : ByteArray) : (a ++ ⟨#[32]⟩ ++ b).size = a.size + 1 + b.size := by
 rw [← size_list, split6_list, List.length_append, List.length_cons, size_list, size_list]; omega
theorem first_pr {a b : List UInt8} {ts2 : List Tok} {x x2 : ExprT} {p er2 p2 : Int} (h : PR a x 21 p) (hp : p < a.length) (hl : lexOf (a ++ 32 :: b) = .ok ts2) (h2 : PR (a ++ 32 :: b) x2 er2 p2) : er2 = 21 ∧ p2 = p := by
 cases h with
 | lexErr h => rcases lexOf_err h with ⟨_, h, _⟩ | ⟨_, _, h, _⟩ <;> omega
 | @syn ts x st' t hl1 hr ht hbad =>
  obtain ⟨_, hq, _, _, zs, rfl, hz⟩ := lexOf_ok hl1
  have h3 := lexL_app 32 (by rfl) b a.length 0 a _ (Nat.le_refl _) hq (a ++ 32 :: b).length (by rw [List.length_append, List.length_cons]; omega)
  have hl0 := hl
  unfold lexOf at hl0
  split at hl0
  ·cases hl0
  ·rw [hl0] at h3
   cases hb : lexL b.length (0 + a.length + 1) b with
   | error e => rw [hb] at h3; cases h3
   | ok ys =>
    rw [hb] at h3
    simp only [joinR, List.dropLast_concat, Except.ok.injEq] at h3
    have hi : st'.i < zs.length := by
     rcases Nat.lt_trichotomy st'.i zs.length with hi | hi | hi
     ·exact hi
     ·rw [List.getElem?_append_right (by omega), hi, Nat.sub_self] at ht
      simp at ht
      subst ht
      simp at hp
     ·rw [List.getElem?_eq_none (by simp; omega)] at ht
      cases ht
    have hsame : ∀ j, j ≤ st'.i → ts2[j]? = (zs ++ [(⟨0, a.length, [], 0⟩ : Tok)])[j]? := fun j hj => by
     rw [h3, List.getElem?_append_left (by omega), List.getElem?_append_left (by omega)]
    have hE := endsT_of (endOk_of hl1)
    have hE2 := endsT_of (endOk_of hl)
    have key : ∀ {x' : ExprT} {st2 : St} {t2 : Tok}, Run ts2 (body .seq) ⟨0, true⟩ (.e x') st2 → ts2[st2.i]? = some t2 → st2 = st' ∧ t2 = t := fun hr2 ht2 => by
     obtain ⟨e, _⟩ := hr.lock hE hE2 (saneE .seq) (Kn.none_ _ _) hsame hr2
     subst e
     rw [hsame _ (Nat.le_refl _), ht] at ht2
     cases ht2
     exact ⟨rfl, rfl⟩
    have bad : st'.ok = true → t.k = 0 → False := fun h1 h2 => hbad.elim (fun h => by rw [h] at h1; cases h1) (fun h => h h2)
    cases h2 with
    | lexErr h => rw [hl] at h; cases h
    | syn hl2 hr2 ht2 hb2 => rw [hl] at hl2; cases hl2; obtain ⟨_, rfl⟩ := key hr2 ht2; exact ⟨rfl, rfl⟩
    | many hl2 hr2 ht2 hok hend => rw [hl] at hl2; cases hl2; obtain ⟨rfl, rfl⟩ := key hr2 ht2; exact (bad hok hend).elim
    | deep hl2 hr2 ht2 hok hend => rw [hl] at hl2; cases hl2; obtain ⟨rfl, rfl⟩ := key hr2 ht2; exact (bad hok hend).elim
    | ok hl2 hr2 ht2 hok hend => rw [hl] at hl2; cases hl2; obtain ⟨rfl, rfl⟩ := key hr2 ht2; exact (bad hok hend).elim
set_option maxHeartbeats 4000000 in
set_option maxRecDepth 100000 in
theorem ParseFirst_walk (a b : ByteArray) (ha : a.size ≤ 140737488355328) (hb : b.size ≤ 140737488355328) (w : World) (hE : EnvL w) :
  Calls Tryz.prog 10 #[.string a, .string b] w fun e w' => e = .returned (.bool true) ∧ Fr [] w w' := by
 have HE := Lib.hid hE
 have cA := fun w hE => Lib.hid (awake6_any w hE)
 have c1 := fun w hE => Lib.hid (Parse_any a (by omega) w hE)
 have c2 := fun w hE => Lib.hid (Parse_any (a ++ ⟨#[32]⟩ ++ b) (by rw [split6_size]; omega) w hE)
 have cL := fun w hE => Lib.hid (Lex_f (a ++ ⟨#[32]⟩ ++ b) (by rw [split6_size]; omega) w hE)
 have hza : (a.size : Int) ≤ 140737488355328 := by omega
 clear hE
 go_enter Tryz.func10, Tryz.ntmps10
 go_wp2_with fail
 refine (cA _ HE.out).out.mono ?_; rintro e w1 ⟨rfl, f1⟩; go_wp2_with fail
 refine (c1 _ (HE.out.fr f1)).out.mono ?_
 rintro e w2 ⟨k1, a1, nm1, n1, s1, ls1, args1, arms1, A51, n51, c51, A61, n61, c61, A71, n71, c71, er1, at1, rfl, _, hpr, f2⟩
 have HPR := Lib.hid hpr
 clear hpr
 have f3 := f1.trans f2
 go_wp2_with fail
 have f4 := f3.alloc (.cells #[.int .i64 k1, .int .i64 a1, .string ⟨nm1.toArray⟩, .int .i64 n1, .string ⟨s1.toArray⟩, .slice A51 n51 c51, .slice A61 n61 c61, .slice A71 n71 c71] 27)
 refine (cL _ (HE.out.fr f4)).out.mono ?_
 rintro e w5 ⟨hlx, f5⟩
 have f6 := f4.trans f5
 cases hl : lexOf (a ++ ⟨#[32]⟩ ++ b).data.toList with
 | error x =>
  obtain ⟨er, p⟩ := x
  rw [hl] at hlx
  have hlx : e = _ := hlx
  subst hlx
  have her : (er != 0) = true := bne_iff_ne.2 (by rcases lexOf_err hl with ⟨_, h, _⟩ | ⟨_, _, h, _⟩ <;> omega)
  clear hl
  by_cases h1 : er1 = 21
  ·subst h1
   by_cases h2 : (a.size : Int) ≤ at1
   ·go_wp2_with fail
    go_ret
    exact ⟨rfl, f6⟩
   ·go_wp2_with fail
    go_ret
    exact ⟨rfl, f6⟩
  ·have h1b : (er1 != 21) = true := bne_iff_ne.2 h1
   clear h1
   go_wp2_with fail
   go_ret
   exact ⟨rfl, f6⟩
 | ok ts2 =>
  rw [hl] at hlx
  obtain ⟨g, c, rfl, _, _⟩ := hlx
  have HL := Lib.hid hl
  clear hl
  by_cases h1 : er1 = 21
  ·subst h1
   by_cases h2 : (a.size : Int) ≤ at1
   ·go_wp2_with fail
    go_ret
    exact ⟨rfl, f6⟩
   ·have H2 := Lib.hid h2
    go_wp2_with fail
    refine (c2 _ (HE.out.fr f6)).out.mono ?_
    rintro e w7 ⟨k2, a2, nm2, n2, s2, ls2, args2, arms2, A52, n52, c52, A62, n62, c62, A72, n72, c72, er2, at2, rfl, _, hpr2, f7⟩
    have hl := HL.out
    rw [split6_list] at hl hpr2
    obtain ⟨rfl, rfl⟩ := first_pr HPR.out (by rw [size_list]; have := H2.out; omega) hl hpr2
    clear hl hpr2
    go_wp2_with fail
    go_ret
    exact ⟨rfl, (f6.trans f7).alloc _⟩
  ·have h1b : (er1 != 21) = true := bne_iff_ne.2 h1
   clear h1
   go_wp2_with fail
   go_ret
   exact ⟨rfl, f6⟩
end Go.Proofs.YtpjkfeehgookkaaGreatDoor
namespace Go.Proofs.YtpjkfeehgookkaaGreatDoor
open Go.ChangeShapes Go.WideShapes Go.ChangeAt Go.ChangeMaps Go.RowKit
section
theorem parseFirst_reads (os : Os) {H : Type} (enc : TypeId × Value → H) : ∃ places, DataW.whole enc Tryz.prog ((doorW os).forCall (fun _ _ => 0) ⟨#[], #[.string ⟨#[]⟩, .string ⟨#[]⟩], []⟩).memory Tryz.f10.params.toList Rows.parseFirstSpec.vars false (#[.string ⟨#[]⟩, .string ⟨#[]⟩] : Array Value).toList 8 = some ([.lit (.string []), .lit (.string [])], [], places) :=
 ⟨[], by kernel_rfl⟩
set_option maxRecDepth 100000 in
theorem parseFirst_contract (H : Type) (enc : TypeId × Value → H) (W : World) (base : Nat) (args : Array Value) (ds gs : List (DataW H)) (before : List MemPlace)
  (hval : ∀ (j : Nat) t v, Tryz.f10.params[j]? = some t → args[j]? = some v → Value.okWide Tryz.prog W .any base t v)
  (hW : DataW.Whole enc Tryz.prog Tryz.f10.params.toList Rows.parseFirstSpec.vars false W args.toList ds gs before) (hsz : (DataW.weightsEach Tryz.prog (Tryz.f10.params.toList ++ Rows.parseFirstSpec.plain.varTypes Tryz.prog) (ds ++ gs)).all (· ≤ reachBytes) = true) (hL : laidMetH Tryz.prog Rows.parseFirstRow.laid W) (hS : W.ShapedOpen Tryz.prog) :
  Calls Tryz.prog 10 args W fun e W' => ∃ v, e = .returned v ∧ Rows.parseFirstSpec.post enc Tryz.prog Tryz.f10 false true false false W args v W' := by
 have hE := env_of hL hS
 have hW' := hW
 obtain ⟨p, q, hA0, hV, rfl, hfz, hnd⟩ := hW
 have hA : DataW.TrodAll enc Tryz.prog W 0 (fun _ => true) true Tryz.f10.params.toList args.toList ds p := hA0
 rw [Tryz.params10] at hA hval hsz
 obtain ⟨v0, vs0, d0, ds0, p0, q0, hargs, rfl, rfl, t0, r0⟩ := trodAll_cons hA
 obtain ⟨v1, vs1, d1, ds1, p1, q1, rfl, rfl, rfl, t1, r1⟩ := trodAll_cons r0
 obtain ⟨rfl, rfl, rfl⟩ := trodAll_nil r1
 obtain rfl : args = #[v0, v1] := by cases args; simp_all
 obtain ⟨rfl, rfl⟩ := trodVars_none hV
 obtain ⟨a, rfl, rfl, rfl, ha⟩ := open_string Tryz.underlying9 (hval 0 9 v0 rfl rfl) t0
 obtain ⟨b, rfl, rfl, rfl, hb⟩ := open_string Tryz.underlying9 (hval 1 9 v1 rfl rfl) t1
 have za : a.size ≤ 140737488351232 := sized_string hsz (j := 0) (t := 9) (bytes := a.data.toList) rfl rfl
 have zb : b.size ≤ 140737488351232 := sized_string hsz (j := 1) (t := 9) (bytes := b.data.toList) rfl rfl
 clear hA0
 simp only [List.append_nil] at hW'
 refine (ParseFirst_walk a b (by omega) (by omega) W hE).mono fun e W' ⟨he, hf⟩ => ?_
 subst he
 refine ⟨_, rfl, _, _, _, [], [], [], hW', ?_, ?_, rfl, hf.below0.frame _, fun h => by cases h⟩
 ·exact trodAll_cons_mk (shut_bool Tryz.underlying4 _) trodAll_mk0
 ·exact trodAll_cons_mk (shut_string Tryz.underlying9 ha) (trodAll_cons_mk (shut_string Tryz.underlying9 hb) trodAll_mk0)
set_option maxRecDepth 100000 in
theorem parseFirst_lifted (os : Os) (started : os.Started) (H : Type) (enc : TypeId × Value → H) (F : Stop.Interp) :
  ReturnsInHanded {} Tryz.checked os 10 .any ((OpenSpec.ofChange Rows.parseFirstSpec).preRow enc Tryz.prog Tryz.f10 Rows.parseFirstRow.domain false Rows.parseFirstRow.laid) (((OpenSpec.ofChange Rows.parseFirstSpec).at F).post enc Tryz.prog Tryz.f10 false true false false) := by
 obtain ⟨places, hx⟩ := parseFirst_reads os enc
 refine returnsInHanded_of_row (C := Tryz.checked) (s := OpenSpec.ofChange Rows.parseFirstSpec) own started (by kernel_rfl) Tryz.func10
  (witness_row_atRef (enc := enc) (C := Tryz.checked) false (doorW os) #[.string ⟨#[]⟩, .string ⟨#[]⟩] rfl (by kernel_rfl) (by kernel_rfl) (by kernel_rfl)
   (OpenSpec.preRow_of_cond 8 hx (by kernel_rfl) (fun k hk => by cases hk) (by kernel_rfl) (laid_met os _))) ?_
 intro W base args ds gs before hval hW _ _ hsz hL hS _
 exact parseFirst_contract H enc W base args ds gs before hval hW hsz hL hS
theorem parseFirst_said : Rows.ParseFirstSaid :=
 OpenClaim.holds_of_cond 10 Tryz.f10 rfl rfl rfl rfl rfl rfl rfl ⟨rfl, rfl, rfl, rfl, rfl⟩ rfl rfl rfl rfl rfl (by kernel_rfl) Tryz.func10 (by kernel_rfl)
  (of_decide_eq_true (by kernel_rfl)) (by unfold Func.isWrapper; first | (rw [if_pos (by decide +kernel)]; kernel_rfl) | (rw [if_neg (by decide +kernel)]; exact ⟨rfl, rfl⟩))
  (fun os started H enc _ F => by rw [OpenClaim.pre_eq_preRow]; exact parseFirst_lifted os started H enc F)
theorem parseFirst_plain (f : FuncId) (fn : Func) (hf : Tryz.pinned.checked.prog.funcNamed "marquetry/marquetrylaw06.ParseFirst" = some f) (hfn : Tryz.pinned.checked.prog.funcs[f]? = some fn) :
  true = Tryz.pinned.checked.prog.looks [] ∧ ∀ (j : Nat) t, fn.params[j]? = some t → Tryz.pinned.checked.prog.wantsStandIn t = false := by
 obtain rfl : f = 10 := Option.some.inj ((show Tryz.prog.funcNamed "marquetry/marquetrylaw06.ParseFirst" = some 10 by kernel_rfl).symm.trans hf) |>.symm
 obtain rfl : fn = Tryz.f10 := (Option.some.inj (Tryz.func10.symm.trans hfn)).symm
 refine ⟨by kernel_rfl, fun j t ht => ?_⟩
 rw [Tryz.params10] at ht
 have hm : t ∈ [9, 9] := by simpa using Array.mem_of_getElem? ht
 have hall : ([9, 9].all fun u => !Tryz.prog.wantsStandIn u) = true := by kernel_rfl
 exact (show Tryz.prog.wantsStandIn t = false by simpa using List.all_eq_true.1 hall t hm)
theorem parseFirst_card : Rows.ParseFirstCardSaid :=
 Claim7.holds_tied_plain_at .later [] _ _ _ _ parseFirst_said (fun _ h => by cases h) (by kernel_rfl) (fun _ h => by cases h) parseFirst_row_tie rfl ⟨rfl, rfl⟩ (by kernel_rfl) rfl parseFirst_plain (by kernel_rfl)
end
end Go.Proofs.YtpjkfeehgookkaaGreatDoor
