/- strings.Builder, where the call itself has made it: with its footprint (the builder's block, its row's block). -/
import Derived.Test.YteffobcelgbiiaaDoorRows
import Derived.Test.YteffobcelgbiiaaDoorAp
import Derived.Test.YteffobcelgbiiaaDoorShelf
import Derived.Lib.Builder
import Derived.Lib.AppendStr
import Derived.Lib.UnsafeStr
import Derived.Lib.Bytes
import Derived.Laws.Externs
namespace Go.Proofs.YteffobcelgbiiaaDoor
open Go.RowKit

/-- block b is a strings.Builder that holds the bytes l; 'own': the block of its row, if it has one -/
def Bld (b : Nat) (own : Option Nat) (l : List UInt8) (w : World) : Prop :=
  ∃ p v, (p = .pointer none ∨ p = .pointer (some ⟨b, 0, none⟩)) ∧ w.heap[b]? = some (.cells #[p, v] 60 (0, 0)) ∧ w.ownsRow 0 5 1 v l.length (Lib.byteCells l) ∧ v.ownBlock = own

theorem Bld.fresh (w : World) : Bld w.heap.size none [] (w.alloc (.cells #[.pointer none, .slice none 0 0] 60)) :=
  ⟨_, _, .inl rfl, heap_new w _, World.ownsRow_nil _ _ _ _, rfl⟩

theorem Bld.own_ne {b : Nat} {own : Option Nat} {l : List UInt8} {w : World} (h : Bld b own l w) : own ≠ some b := by
  obtain ⟨p, v, _, hb, hown, rfl⟩ := h
  exact Lib.ownBlock_ne hown hb (by decide)
theorem Bld.lt {b : Nat} {own : Option Nat} {l : List UInt8} {w : World} (h : Bld b own l w) : b < w.heap.size := by
  obtain ⟨p, v, _, hb, _⟩ := h
  exact lt_of_heap hb
theorem Bld.own_lt {b : Nat} {own : Option Nat} {l : List UInt8} {w : World} (h : Bld b own l w) : ∀ g, own = some g → g < w.heap.size := by
  obtain ⟨p, v, _, hb, hown, rfl⟩ := h
  exact fun g hg => (hown.lt g hg).2

/-- a builder stays one while its two blocks stand -/
theorem Bld.keep {b : Nat} {own : Option Nat} {l : List UInt8} {w w' : World} {L : List Nat} (h : Bld b own l w) (hf : Fr L w w') (h1 : b ∉ L) (h2 : ∀ g, own = some g → g ∉ L) : Bld b own l w' := by
  obtain ⟨p, v, hp, hb, hown, ho⟩ := h
  refine ⟨p, v, hp, hf.keep hb h1, ⟨hown.1, ?_⟩, ho⟩
  rcases hown.2 with hn | ⟨g, cap, cur, hv, hb2, hg, rest⟩
  · exact .inl hn
  · exact .inr ⟨g, cap, cur, hv, hb2, hf.keep hg (h2 g (by rw [← ho, hv]; rfl)), rest⟩

theorem infoByte : (Tryd.prog.info? 5).map (fun i => (i.zero, i.size, i.bytes)) = some (some (.int .u8 0), 1, 1) := by kernel_rfl
theorem sizeBuilder : (Tryd.prog.info? 60).map (·.size) = some 2 := by kernel_rfl
theorem liesBuilder : liesAt Tryd.prog Tryd.prog.depth 60 (2 / Tryd.prog.cellsOf 60) 0 60 1 = true := by kernel_rfl

set_option maxHeartbeats 1000000 in
set_option maxRecDepth 100000 in
theorem copyCheck_used (b : Nat) (w : World) (h0 : w.cell? ⟨b, 0, none⟩ = some (.pointer (some ⟨b, 0, none⟩))) :
    Calls Tryd.prog 57 #[.pointer (some ⟨b, 0, none⟩)] w fun e w' => e = .returned (.tuple #[]) ∧ w = w' := by
  obtain ⟨j, hj, _⟩ := Option.map_eq_some_iff.1 sizeBuilder
  go_enter Tryd.func57, Tryd.ntmps57
  go_wp2
  rw [Lib.run_neq_ptr_same w _ Tryd.underlying58 hj]
  go_wp2
  go_end0
  exact ⟨rfl, rfl⟩

set_option maxHeartbeats 1000000 in
set_option maxRecDepth 100000 in
theorem copyCheck_fresh (b : Nat) (w : World) (h0 : w.cell? ⟨b, 0, none⟩ = some (.pointer none)) (hsh : w.shape? b = some (60, 2)) (hfz : w.frozen? ⟨b, 0, none⟩ = false) :
    Calls Tryd.prog 57 #[.pointer (some ⟨b, 0, none⟩)] w fun e w' => e = .returned (.tuple #[]) ∧ w' = w.setCell ⟨b, 0, none⟩ (.pointer (some ⟨b, 0, none⟩)) := by
  obtain ⟨j, hj, hjs⟩ := Option.map_eq_some_iff.1 sizeBuilder
  go_enter Tryd.func57, Tryd.ntmps57
  go_wp2
  rw [Lib.run_to_unsafe w ⟨b, 0, none⟩ Tryd.underlying58 Tryd.underlying92 hj (by rw [hjs]; decide) hsh (Nat.zero_lt_succ 1)]
  simp only [Result.andThen]
  rw [Oper.upon_value]
  go_wp2
  rw [run_callFunc_extern Tryd.func74 (by kernel_rfl) (by kernel_rfl) (by kernel_rfl) (e := Extern.AbiNoEscape.same) (by kernel_rfl)]
  rw [Lib.run_noEscape]
  simp only [Result.andThen]
  rw [Oper.upon_value]
  go_wp2
  rw [Lib.run_from_unsafe w ⟨b, 0, none⟩ Tryd.underlying92 Tryd.underlying58 hj hsh liesBuilder]
  simp only [Result.andThen]
  rw [Oper.upon_value]
  go_wp2
  go_end0
  exact ⟨rfl, rfl⟩

/-- behind copyCheck the builder is used -/
theorem copyCheck_any (b : Nat) (own : Option Nat) (l : List UInt8) (w : World) (h : Bld b own l w) :
    Calls Tryd.prog 57 #[.pointer (some ⟨b, 0, none⟩)] w fun e w' => e = .returned (.tuple #[]) ∧ (∃ v, w'.heap[b]? = some (.cells #[.pointer (some ⟨b, 0, none⟩), v] 60 (0, 0)) ∧ w'.ownsRow 0 5 1 v l.length (Lib.byteCells l) ∧ v.ownBlock = own) ∧ Fr [b] w w' := by
  have hne := h.own_ne
  obtain ⟨p, v, hp, hb, hown, ho⟩ := h
  rcases hp with rfl | rfl
  · refine (copyCheck_fresh b w (by rw [cell_of hb]; rfl) (by simp [World.shape?, hb]) (frozen_of hb 0)).mono ?_
    rintro e w' ⟨rfl, rfl⟩
    refine ⟨rfl, ⟨v, by simp [World.setCell, Array.getElem?_modify, hb], ?_, ho⟩, (Fr.refl [b] w).setCell (p := ⟨b, 0, none⟩) (.inl (by simp)) _⟩
    exact hown.kept (row := some b) ⟨rfl, rfl, rfl, by simp [World.setCell], fun k _ hk => Below.heap_setCell _ _ _ _ (fun e => hk (by simp [e]))⟩ (Or.inr (by rw [ho]; exact hne))
  · refine (copyCheck_used b w (by rw [cell_of hb]; rfl)).mono ?_
    rintro e w' ⟨rfl, rfl⟩
    exact ⟨rfl, ⟨v, hb, hown, ho⟩, Fr.refl _ _⟩

/-- what a write leaves -/
structure Wrote (b : Nat) (own : Option Nat) (l : List UInt8) (w w' : World) : Prop where
  out : ∃ own', Bld b own' l w' ∧ ∀ g, own' = some g → own = some g ∨ w.heap.size ≤ g
  fr : Fr (b :: own.toList) w w'

set_option maxHeartbeats 2000000 in
set_option maxRecDepth 100000 in
theorem WriteByte_any (b : Nat) (own : Option Nat) (l : List UInt8) (c : Int) (c0 : 0 ≤ c) (c1 : c ≤ 255) (w : World) (h : Bld b own l w) (hlen : l.length + 1 ≤ 140737488355328) :
    Calls Tryd.prog 39 #[.pointer (some ⟨b, 0, none⟩), .int .u8 c] w fun e w' => e = .returned .nilIface ∧ Wrote b own (l ++ [UInt8.ofNat c.toNat]) w w' := by
  obtain ⟨i0, hi, hz0, hz1, hz2⟩ := info_parts infoByte
  have hne := h.own_ne
  have hol := h.own_lt
  have hcell : Lib.byteCells (l ++ [UInt8.ofNat c.toNat]) = Lib.byteCells l ++ [.int .u8 c] := by
    have := ofNat_toNat c c0 c1
    simp only [Lib.byteCells, List.map_append, List.map_cons, List.map_nil, this]
  have Hc := Lib.hid hcell
  clear hcell
  go_enter Tryd.func39, Tryd.ntmps39
  go_wp2_with (go_at_call 57; refine (copyCheck_any b own l _ h).mono ?_)
  rintro e w1 ⟨rfl, ⟨v, hbk, hown, ho⟩, hf1⟩
  have HO := Lib.hid ho
  clear ho
  have d0 : w1.cell? ⟨b, 0, none⟩ = some (.pointer (some ⟨b, 0, none⟩)) := by rw [cell_of hbk]; rfl
  have d1 : w1.cell? ⟨b, 1, none⟩ = some v := by rw [cell_of hbk]; rfl
  go_wp2_with (at_builtin; refine wpList_append_fp _ rfl _ _ 32 rfl 5 i0 (.int .u8 0) 1 1 Tryd.underlying32 hi hz0 hz1 hz2 rfl (by decide) _ _ _ rfl (hown.alloc _) ⟨w1.heap.size, 0, none⟩ 1 1 [.int .u8 c] rfl rfl ?c1 ?c2 ?c3 ?c4 ?_)
  case c1 =>
    intro j u hj
    match j, hj with
    | 0, hj => simp at hj; subst hj; simp [Addr.add]
  case c2 => intro u hu; simp at hu; subst hu; rfl
  case c3 => unfold maxLen; omega
  case c4 => omega
  intro v' w2 hown' hgrow hfp
  have hlt : b < w1.heap.size := lt_of_heap hbk
  have hb2 : w2.heap[b]? = some (.cells #[.pointer (some ⟨b, 0, none⟩), v] 60 (0, 0)) := by
    rw [hgrow.block b (by simp; omega) (fun e => hne (by rw [← HO.out, ← e])), Lib.alloc_old w1 _ b hlt]
    exact hbk
  have e0 : w2.cell? ⟨b, 0, none⟩ = some (.pointer (some ⟨b, 0, none⟩)) := by rw [cell_of hb2]; rfl
  have e1 : w2.cell? ⟨b, 1, none⟩ = some v := by rw [cell_of hb2]; rfl
  have f1 : w2.frozen? ⟨b, 1, none⟩ = false := frozen_of hb2 1
  obtain ⟨g, cap, rfl⟩ : ∃ g cap, v' = .slice (some ⟨g, 0, none⟩) (l.length + 1) cap := by
    rcases hown'.2 with ⟨_, h0⟩ | ⟨g, cap, cur, hv, _⟩
    · omega
    · exact ⟨g, cap, hv⟩
  have hf2 : Fr (b :: own.toList) w w2 := by
    refine ((hf1.mono (L' := b :: own.toList) (fun x hx => .inl (by simp at hx; simp [hx]))).alloc (.cells #[.int .u8 c] 5)).append hgrow ?_
    intro g hg
    rw [HO.out] at hg
    exact .inl (by simp [hg])
  go_wp2
  go_ret
  have hown2 : w2.ownsRow 0 5 1 (.slice (some ⟨g, 0, none⟩) (l.length + 1) cap) (l.length + 1) (Lib.byteCells (l ++ [UInt8.ofNat c.toNat])) := by rw [Hc.out]; exact hown'
  have hgb : (Value.slice (some ⟨g, 0, none⟩) (l.length + 1) cap).ownBlock ≠ some b := Lib.ownBlock_ne hown2 hb2 (by decide)
  refine ⟨rfl, ⟨some g, ⟨_, .slice (some ⟨g, 0, none⟩) (l.length + 1) cap, .inr rfl, by simp [World.setCell, Array.getElem?_modify, hb2], ?_, rfl⟩, ?_⟩, ?_⟩
  · have : (l ++ [UInt8.ofNat c.toNat]).length = l.length + 1 := by simp
    rw [this]
    exact hown2.kept (row := some b) ⟨rfl, rfl, rfl, by simp [World.setCell], fun k _ hk => Below.heap_setCell _ _ _ _ (fun e => hk (by simp [e]))⟩ (Or.inr hgb)
  · intro g' hg'
    rcases hfp g' hg' with h1 | h1
    · exact .inl (by rw [← HO.out, h1])
    · refine .inr ?_
      have := hf1.size
      have h2 : (w1.alloc (.cells #[.int .u8 c] 5)).heap.size = w1.heap.size + 1 := by simp
      omega
  · exact hf2.setCell (p := ⟨b, 1, none⟩) (.inl (by simp)) _

set_option maxHeartbeats 2000000 in
set_option maxRecDepth 100000 in
theorem WriteString_any (b : Nat) (own : Option Nat) (l : List UInt8) (s : ByteArray) (w : World) (h : Bld b own l w) (hlen : l.length + s.size ≤ 140737488355328) :
    Calls Tryd.prog 59 #[.pointer (some ⟨b, 0, none⟩), .string s] w fun e w' => e = .returned (.tuple #[.int .i64 s.size, .nilIface]) ∧ Wrote b own (l ++ s.data.toList) w w' := by
  obtain ⟨i0, hi, hz0, hz1, hz2⟩ := info_parts infoByte
  have hne := h.own_ne
  have hol := h.own_lt
  have hcell : Lib.byteCells (l ++ s.data.toList) = Lib.byteCells l ++ Lib.strCells s := by rw [strCells_list, Lib.byteCells_append]
  have Hc := Lib.hid hcell
  clear hcell
  go_enter Tryd.func59, Tryd.ntmps59
  go_wp2_with (go_at_call 57; refine (copyCheck_any b own l _ h).mono ?_)
  rintro e w1 ⟨rfl, ⟨v, hbk, hown, ho⟩, hf1⟩
  have HO := Lib.hid ho
  clear ho
  have d0 : w1.cell? ⟨b, 0, none⟩ = some (.pointer (some ⟨b, 0, none⟩)) := by rw [cell_of hbk]; rfl
  have d1 : w1.cell? ⟨b, 1, none⟩ = some v := by rw [cell_of hbk]; rfl
  go_wp2_with (at_builtin; refine wpList_append_fp_string _ rfl _ _ 32 9 rfl 5 i0 Tryd.underlying32 Tryd.underlying9 hi hz0 hz1 hz2 _ _ _ rfl hown s rfl ?c3 ?c4 ?_)
  case c3 => unfold maxLen; omega
  case c4 => omega
  intro v' w2 hown' hgrow hfp
  have hlt : b < w1.heap.size := lt_of_heap hbk
  have hb2 : w2.heap[b]? = some (.cells #[.pointer (some ⟨b, 0, none⟩), v] 60 (0, 0)) := by
    rw [hgrow.block b hlt (fun e => hne (by rw [← HO.out, ← e]))]
    exact hbk
  have e0 : w2.cell? ⟨b, 0, none⟩ = some (.pointer (some ⟨b, 0, none⟩)) := by rw [cell_of hb2]; rfl
  have e1 : w2.cell? ⟨b, 1, none⟩ = some v := by rw [cell_of hb2]; rfl
  have f1 : w2.frozen? ⟨b, 1, none⟩ = false := frozen_of hb2 1
  obtain ⟨ao, n', cap, hv'⟩ : ∃ ao n' cap, v' = .slice ao n' cap := by
    rcases hown'.2 with ⟨hv, _⟩ | ⟨g, cap, cur, hv, _⟩
    · exact ⟨_, _, _, hv⟩
    · exact ⟨_, _, _, hv⟩
  subst hv'
  have hf2 : Fr (b :: own.toList) w w2 := by
    refine (hf1.mono (L' := b :: own.toList) (fun x hx => .inl (by simp at hx; simp [hx]))).append hgrow ?_
    intro g hg
    rw [HO.out] at hg
    exact .inl (by simp [hg])
  go_wp2
  go_ret2
  have hown2 : w2.ownsRow 0 5 1 (.slice ao n' cap) (l.length + s.size) (Lib.byteCells (l ++ s.data.toList)) := by rw [Hc.out]; exact hown'
  have hgb : (Value.slice ao n' cap).ownBlock ≠ some b := Lib.ownBlock_ne hown2 hb2 (by decide)
  refine ⟨rfl, ⟨(Value.slice ao n' cap).ownBlock, ⟨_, .slice ao n' cap, .inr rfl, by simp [World.setCell, Array.getElem?_modify, hb2], ?_, rfl⟩, ?_⟩, ?_⟩
  · have : (l ++ s.data.toList).length = l.length + s.size := by rw [List.length_append]; rfl
    rw [this]
    exact hown2.kept (row := some b) ⟨rfl, rfl, rfl, by simp [World.setCell], fun k _ hk => Below.heap_setCell _ _ _ _ (fun e => hk (by simp [e]))⟩ (Or.inr hgb)
  · intro g' hg'
    rcases hfp g' hg' with h1 | h1
    · exact .inl (by rw [← HO.out, h1])
    · exact .inr (Nat.le_trans hf1.size h1)
  · exact hf2.setCell (p := ⟨b, 1, none⟩) (.inl (by simp)) _

/-- what the builder holds, as a string; B: a number below both its blocks -/
theorem String_any (B b : Nat) (own : Option Nat) (l : List UInt8) (w : World) (h : Bld b own l w) (hB : B ≤ b) (hO : ∀ g, own = some g → B ≤ g) :
    Calls Tryd.prog 41 #[.pointer (some ⟨b, 0, none⟩)] w fun e w' => e = .returned (.string ⟨l.toArray⟩) ∧ Below B w w' := by
  have hlt := h.lt
  have hne := h.own_ne
  refine Tryd.Builder_String_any B b l w ?_ (by omega)
  obtain ⟨p, v, hp, hb, hown, rfl⟩ := h
  have hown' : w.ownsRow B 5 1 v (Lib.byteCells l).length (Lib.byteCells l) := by
    rw [Lib.byteCells_length]
    refine ⟨hown.1, ?_⟩
    rcases hown.2 with hn | ⟨g, cap, cur, hv, _, rest⟩
    · exact .inl hn
    · exact .inr ⟨g, cap, cur, hv, hO g (by rw [hv]; rfl), rest⟩
  rcases hp with rfl | rfl
  · exact .inl ⟨hB, v, hb, hown', hne⟩
  · exact .inr ⟨hB, v, hb, hown', hne⟩
end Go.Proofs.YteffobcelgbiiaaDoor
