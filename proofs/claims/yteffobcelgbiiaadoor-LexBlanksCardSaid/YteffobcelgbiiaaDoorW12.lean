/- Layer 1, walks: the reference's Unquote. -/
import Derived.Test.YteffobcelgbiiaaDoorW11
namespace Go.Proofs.YteffobcelgbiiaaDoor
open Go.RowKit

/-- what is still to be read is t, behind acc -/
def UInv (s : List UInt8) (acc t : List UInt8) : Prop := ∀ l, quoteL l = s ↔ ∃ m, l = acc ++ m ∧ quotes m = t
theorem UInv.start (t : List UInt8) : UInv (34 :: (t ++ [34])) [] t := by
  intro l
  simp only [quoteL, List.cons.injEq, true_and, List.append_cancel_right_eq, List.nil_append]
  exact ⟨fun h => ⟨l, rfl, h⟩, fun ⟨_, e, h⟩ => e ▸ h⟩
theorem UInv.step {s acc t : List UInt8} {c : UInt8} (h : UInv s acc (quo c ++ t)) : UInv s (acc ++ [c]) t := by
  intro l
  rw [h l]
  constructor
  · rintro ⟨m, rfl, hm⟩
    cases m with
    | nil => have := quo_ne c; simp [quotes] at hm; exact absurd hm.1 this
    | cons d m =>
      simp only [quotes, List.flatMap_cons] at hm
      obtain ⟨rfl, h2⟩ := quo_split hm
      exact ⟨m, by simp, h2⟩
  · rintro ⟨m, rfl, hm⟩
    exact ⟨c :: m, by simp, by simp only [quotes, List.flatMap_cons] at hm ⊢; rw [hm]⟩
theorem UInv.end {s acc : List UInt8} (h : UInv s acc []) : unq s = some acc := by
  rw [unq_iff, h acc]
  exact ⟨[], by simp, rfl⟩
theorem UInv.none {s acc t : List UInt8} (h : UInv s acc t) (ht : t ≠ []) (hn : ∀ c : UInt8, ¬ quo c <+: t) : unq s = none := by
  cases e : unq s with
  | none => rfl
  | some l =>
    obtain ⟨m, _, hm⟩ := (h l).1 (unq_some e)
    cases m with
    | nil => exact absurd hm.symm ht
    | cons d m => exact absurd ⟨quotes m, by rw [← hm]; rfl⟩ (hn d)

theorem framed_of (s : ByteArray) (h : 2 ≤ s.size) (h0 : s[0] = 34) (h1 : s[s.size - 1] = 34) : s.data.toList = 34 :: ((s.extract 1 (s.size - 1)).data.toList ++ [34]) := by
  apply List.ext_getElem
  · simp; omega
  · intro i hi hi2
    simp only [Array.length_toList] at hi
    have hi' : i < s.size := hi
    rcases Nat.eq_zero_or_pos i with rfl | hp
    · exact h0
    · obtain ⟨j, rfl⟩ : ∃ j, i = j + 1 := ⟨i - 1, by omega⟩
      by_cases he : j + 1 = s.size - 1
      · have h2 : s.data.toList[j + 1] = 34 := by
          have : s[j + 1]'hi' = 34 := by simpa [he] using h1
          exact this
        rw [h2]
        simp only [List.getElem_cons_succ]
        rw [List.getElem_append_right (by simp; omega)]
        simp
      · simp only [List.getElem_cons_succ]
        rw [List.getElem_append_left (by simp; omega)]
        simp

theorem unq_short {s : List UInt8} (h : s.length < 2) : unq s = none := by
  cases e : unq s with
  | none => rfl
  | some l => have := unq_some e; rw [← this] at h; simp [quoteL] at h; omega
theorem unq_head {s : List UInt8} (h : s.head? ≠ some 34) : unq s = none := by
  cases e : unq s with
  | none => rfl
  | some l => have := unq_some e; rw [← this] at h; simp [quoteL] at h
theorem unq_last {s : List UInt8} (h : s.getLast? ≠ some 34) : unq s = none := by
  cases e : unq s with
  | none => rfl
  | some l => have := unq_some e; rw [← this] at h; simp [quoteL, List.getLast?_cons, List.getLast?_append] at h
theorem unq_n {s : List UInt8} (h : unq s = none) : unqT s = [] ∧ unqE s = 5 := by unfold unqT unqE; rw [h]; exact ⟨rfl, rfl⟩
theorem unq_s {s l : List UInt8} (h : unq s = some l) : unqT s = l ∧ unqE s = 0 := by unfold unqT unqE; rw [h]; exact ⟨rfl, rfl⟩

theorem head_ne (s : ByteArray) (h : 0 < s.size) (h0 : s[0] ≠ 34) : s.data.toList.head? ≠ some 34 := by
  rw [head_byte s h]; simpa using h0
theorem last_ne (s : ByteArray) (h : 0 < s.size) (h0 : s[s.size - 1] ≠ 34) : s.data.toList.getLast? ≠ some 34 := by
  have hl : s.data.toList.length - 1 < s.data.toList.length := by rw [size_list]; omega
  rw [List.getLast?_eq_getElem?, List.getElem?_eq_getElem hl]
  intro h
  apply h0
  simp only [Option.some.injEq] at h
  have : s.data.toList.length - 1 = s.size - 1 := by rw [size_list]
  simp only [this] at h
  exact h

theorem OwnB.none (w : World) : OwnB w.heap.size (.slice (some ⟨w.heap.size, 0, none⟩) 0 0) [] (w.alloc (.cells #[] 5)) :=
  ⟨World.ownsRow_lit w #[] 0 (Nat.zero_le _) (by decide) rfl, fun g hg => by simp [Value.ownBlock] at hg; omega⟩

theorem ext_list (t : ByteArray) (n : Nat) : (t.extract 0 n).toList = t.data.toList.take n := by
  rw [ByteArray.toList_eq]; simp
theorem pfx_iff (t : ByteArray) (q : List UInt8) : q <+: t.data.toList ↔ q.length ≤ t.size ∧ ((t.extract 0 q.length).toList == q) = true := by
  rw [ext_list, beq_iff_eq]
  constructor
  · intro h
    refine ⟨by have := h.length_le; rwa [size_list] at this, ?_⟩
    exact (List.prefix_iff_eq_take.1 h).symm
  · rintro ⟨_, h⟩
    rw [← h]
    exact List.take_prefix _ _
theorem pfx_rest (t : ByteArray) (q : List UInt8) (h : q <+: t.data.toList) : t.data.toList = q ++ (t.extract q.length t.size).data.toList := by
  obtain ⟨r, hr⟩ := h
  have : (t.extract q.length t.size).data.toList = t.data.toList.drop q.length := Lib.extract_to_end t q.length
  rw [this, ← hr, List.drop_append_of_le_length (Nat.le_refl _)]
  simp

set_option maxHeartbeats 1000000 in
set_option maxRecDepth 100000 in
theorem RUnquote_any (s : ByteArray) (hs : s.size ≤ 16777216) (w : World) :
    Calls Tryd.prog 33 #[.string s] w fun e w' => e = .returned (.tuple #[.string ⟨(unqT s.data.toList).toArray⟩, .int .i64 (unqE s.data.toList)]) ∧ Fr [] w w' := by
  by_cases h0 : s.size < 2
  · obtain ⟨e1, e2⟩ := unq_n (unq_short (s := s.data.toList) (by rw [size_list]; exact h0))
    rw [e1, e2]
    go_enter Tryd.func33, Tryd.ntmps33
    go_wp2_with fail
    go_ret2
    exact ⟨rfl, Fr.refl _ _⟩
  have hp : 0 < s.size := by omega
  have hq : s.size - 1 < s.size := by omega
  have hp2 : 2 ≤ (s.size : Int) := by omega
  by_cases h1 : s[0] = 34
  · have b1 : ((s[0].toNat : Nat) : Int) = 34 := by rw [h1]; rfl
    by_cases h2 : s[s.size - 1] = 34
    · have hf := Lib.hid (framed_of s (by omega) h1 h2)
      have hU := UInv.start (s.extract 1 (s.size - 1)).data.toList
      rw [← hf.out] at hU
      have HU := Lib.hid hU
      have b2 : (((s[s.size - 1].toNat : Nat) : Int) != 34) = false := by rw [h2]; rfl
      clear hU h1 h2 hf
      go_enter Tryd.func33, Tryd.ntmps33
      go_wp2_with fail
      obtain ⟨i0, hi, hz0, hz1, hz2⟩ := info_parts infoByte
      go_loopw [4, 5] (fun i v wr => ∃ (t : ByteArray) (acc : List UInt8), i = .string t ∧ OwnB w.heap.size v acc wr ∧ acc.length + t.size ≤ s.size ∧ Fr [] w wr ∧ Hid (UInv s.data.toList acc t.data.toList)) (fun i _ _ => match i with | .string t => t.size | _ => 0)
      case atStart => exact ⟨_, [], rfl, OwnB.none w, by simp; omega, (Fr.refl _ _).alloc _, HU⟩
      case round =>
        obtain ⟨t, acc, rfl, hov, hlen, hf, HI⟩ := hrel
        clear HU b1 b2
        by_cases ht : 0 < t.size
        · have ht1 : 0 < (t.size : Int) := by omega
          go_wp2_with fail
          go_loopw [4, 5, 6, 7] (fun i v f c wr => ∃ (k : Nat) (fd : Bool) (t' : ByteArray) (acc' : List UInt8), k ≤ 256 ∧ c = .int .i64 k ∧ f = .bool fd ∧ i = .string t' ∧ OwnB w.heap.size v acc' wr ∧ acc'.length + t'.size ≤ s.size ∧ Fr [] w wr ∧ Hid (UInv s.data.toList acc' t'.data.toList) ∧ ((fd = false ∧ t' = t ∧ Hid (∀ d : UInt8, d.toNat < k → ¬ quo d <+: t.data.toList)) ∨ (fd = true ∧ t'.size < t.size))) (fun _ _ _ c _ => 256 - (intOf c).toNat)
          case atStart => exact ⟨0, false, t, acc, by omega, rfl, rfl, rfl, hov, hlen, hf, HI, .inl ⟨rfl, rfl, Lib.hid (fun _ h => absurd h (by omega))⟩⟩
          case round =>
            obtain ⟨k, fd, t', acc', hk, rfl, rfl, rfl, hov', hlen', hf', HI', hst⟩ := hrel
            clear HI hov hf
            rcases hst with ⟨rfl, rfl, HN⟩ | ⟨rfl, hlt⟩
            · by_cases hk2 : k < 256
              · obtain ⟨c, rfl⟩ : ∃ c : UInt8, c.toNat = k := ⟨UInt8.ofNat k, by rw [UInt8.toNat_ofNat']; omega⟩
                have hql := (quo_len c)
                have v1 : IntKind.u8.wrap ((c.toNat : Nat) : Int) = ((c.toNat : Nat) : Int) := by rw [IntKind.wrap_u8]; omega
                by_cases hpx : quo c <+: t'.data.toList
                · obtain ⟨hl1, hl2⟩ := (pfx_iff t' (quo c)).1 hpx
                  have hx := (pfx_rest t' (quo c) hpx)
                  have HI2 := HI'.out
                  rw [hx] at HI2
                  have HJ := Lib.hid HI2.step
                  have hz : (t'.extract (quo c).length t'.size).size = t'.size - (quo c).length := by simp
                  clear HI2 hx hpx HI' HN
                  go_wp2_with fail
                  refine (Rone_any c _).mono ?_
                  rintro e w1 ⟨rfl, hf1⟩
                  have hown1 := ownsRow_fr hov'.1 hf1 (fun _ _ h => by cases h)
                  have hog := hov'.2
                  clear hov'
                  go_wp2_with (at_builtin; refine wpList_append_fp _ rfl _ _ 32 rfl 5 i0 (.int .u8 0) 1 1 Tryd.underlying32 hi hz0 hz1 hz2 rfl (by decide) _ _ _ rfl (hown1.alloc _) ⟨w1.heap.size, 0, none⟩ 1 1 [.int .u8 (c.toNat : Int)] rfl rfl ?c1 ?c2 ?c3 ?c4 ?_)
                  case c1 =>
                    intro j u hj
                    match j, hj with
                    | 0, hj => simp at hj; subst hj; simp [Addr.add]
                  case c2 => intro u hu; simp at hu; subst hu; rfl
                  case c3 => unfold maxLen; omega
                  case c4 => omega
                  intro v' w2 hown2 hgrow hfp
                  have hc : Lib.byteCells acc' ++ [.int .u8 (c.toNat : Int)] = Lib.byteCells (acc' ++ [c]) := by simp [Lib.byteCells]
                  rw [hc] at hown2
                  go_wp2_with fail
                  go_roundw
                  case rel =>
                    refine ⟨c.toNat + 1, true, _, acc' ++ [c], by omega, by go_num, rfl, rfl, ⟨?_, ?_⟩, ?_, ?_, HJ, .inr ⟨rfl, by omega⟩⟩
                    · rw [List.length_append]; exact hown2
                    · intro g hg
                      rcases hfp g hg with h | h
                      · exact hog g h
                      · have := hf'.size; have := hf1.size; omega
                    · simp only [List.length_append, List.length_cons, List.length_nil]; omega
                    · exact ((hf'.trans hf1).alloc _).append hgrow (fun g hg => .inr (hog g hg))
                  case measure => simp [intOf]; omega
                · have key : ¬ (quo c).length ≤ t'.size ∨ ((quo c).length ≤ t'.size ∧ ((t'.extract 0 (quo c).length).toList == quo c) = false) := by
                    by_cases hl : (quo c).length ≤ t'.size
                    · exact .inr ⟨hl, by rw [Bool.eq_false_iff]; intro h; exact hpx ((pfx_iff t' (quo c)).2 ⟨hl, h⟩)⟩
                    · exact .inl hl
                  have HN2 : Hid (∀ d : UInt8, d.toNat < c.toNat + 1 → ¬ quo d <+: t'.data.toList) := by
                    refine Lib.hid (fun d hd => ?_)
                    by_cases hdc : d.toNat < c.toNat
                    · exact HN.out d hdc
                    · have : d = c := UInt8.toNat_inj.1 (by omega)
                      rw [this]; exact hpx
                  clear hpx HN
                  rcases key with hl | ⟨hl, hl2⟩
                  all_goals
                    go_wp2_with fail
                    refine (Rone_any c _).mono ?_
                    rintro e w1 ⟨rfl, hf1⟩
                    go_wp2_with fail
                    go_roundw
                    case rel => exact ⟨c.toNat + 1, false, _, acc', by omega, by go_num, rfl, rfl, hov'.fr hf1, hlen', hf'.trans hf1, HI', .inl ⟨rfl, rfl, HN2⟩⟩
                    case measure => simp [intOf]; omega
              · have hke : k = 256 := by omega
                subst hke
                have hn : unq s.data.toList = none := HI'.out.none (by intro h; rw [← size_list, h] at ht; simp at ht) (fun d => HN.out d d.toNat_lt)
                obtain ⟨e1, e2⟩ := unq_n hn
                have E1 := Lib.hid e1
                have E2 := Lib.hid e2
                clear hn e1 e2 HN HI'
                go_wp2_with fail
                go_ret2
                exact ⟨by rw [E1.out, E2.out]; rfl, hf'⟩
            · go_wp2_with fail
              all_goals
                go_roundw
                case rel => exact ⟨t', acc', rfl, hov', hlen', hf', HI'⟩
                case measure => exact hlt
        · have ht1 : ¬ 0 < (t.size : Int) := by omega
          have e := HI.out
          have he : t.data.toList = [] := List.eq_nil_of_length_eq_zero (by rw [size_list]; omega)
          rw [he] at e
          obtain ⟨e1, e2⟩ := unq_s e.end
          have E1 := Lib.hid e1
          have E2 := Lib.hid e2
          clear e e1 e2 he HI
          have hconv := run_bytes_own Tryd.underlying32 Tryd.underlying5 Tryd.underlying9 wr _ _ _ hov.1
          go_wp2_with fail
          go_ret2
          exact ⟨by rw [E1.out, E2.out]; rfl, hf⟩
    · obtain ⟨e1, e2⟩ := unq_n (unq_last (s := s.data.toList) (last_ne s (by omega) h2))
      rw [e1, e2]
      have b2 : (((s[s.size - 1].toNat : Nat) : Int) != 34) = true := by
        rw [bne_iff_ne]; intro h; apply h2; apply UInt8.toNat_inj.1; have h9 : (34 : UInt8).toNat = 34 := rfl; omega
      clear h1 h2
      go_enter Tryd.func33, Tryd.ntmps33
      go_wp2_with fail
      go_ret2
      exact ⟨rfl, Fr.refl _ _⟩
  · obtain ⟨e1, e2⟩ := unq_n (unq_head (s := s.data.toList) (head_ne s (by omega) h1))
    rw [e1, e2]
    have b1 : ¬ ((s[0].toNat : Nat) : Int) = 34 := by
      intro h; apply h1; apply UInt8.toNat_inj.1; have h9 : (34 : UInt8).toNat = 34 := rfl; omega
    clear h1
    go_enter Tryd.func33, Tryd.ntmps33
    go_wp2_with fail
    go_ret2
    exact ⟨rfl, Fr.refl _ _⟩
end Go.Proofs.YteffobcelgbiiaaDoor
