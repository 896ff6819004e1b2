/- Layer 5, plain: laws of the lists of tokens. No program in sight. -/
import Derived.Test.YteffobcelgbiiaaDoorLq
namespace Go.Proofs.YteffobcelgbiiaaDoor
open Go.RowKit

theorem lexL_nil (f a : Nat) : lexL f a [] = .ok [⟨0, a, [], 0⟩] := by cases f <;> rfl
theorem lexL_blank (f a : Nat) {c : UInt8} (r : List UInt8) (h : blankB c = true) : lexL (f + 1) a (c :: r) = lexL f (a + 1) r := by
  rw [lexL, if_pos (blank_cases h)]
theorem lexL_tok (f a : Nat) {c : UInt8} (r : List UInt8) (h : blankB c = false) : lexL (f + 1) a (c :: r) = match tok (c :: r) with
    | .error e => .error (e, a)
    | .ok (k, t, n, m) => match lexL f (a + m) ((c :: r).drop m) with
      | .error e => .error e
      | .ok l => .ok (⟨k, a, t, n⟩ :: l) := by
  rw [lexL, if_neg (fun hc => by rw [Bool.eq_false_iff] at h; exact h (by simpa [blankB] using hc))]
  cases tok (c :: r) with
  | error e => rfl
  | ok x => rfl

/-! ### what is told of the tokens -/
theorem lexL_ind {P : Nat → List UInt8 → List Tok → Prop} (h0 : ∀ a, P a [] [⟨0, a, [], 0⟩])
    (h1 : ∀ a c r ts, blankB c = true → P (a + 1) r ts → P a (c :: r) ts)
    (h2 : ∀ a c r k t n m ts, blankB c = false → tok (c :: r) = .ok (k, t, n, m) → P (a + m) ((c :: r).drop m) ts → P a (c :: r) (⟨k, a, t, n⟩ :: ts)) :
    ∀ (f a : Nat) (l : List UInt8) (ts : List Tok), lexL f a l = .ok ts → P a l ts
  | f, a, [], ts, h => by rw [lexL_nil] at h; cases h; exact h0 a
  | 0, a, c :: r, ts, h => by cases h
  | f + 1, a, c :: r, ts, h => by
    cases hb : blankB c with
    | true => rw [lexL_blank f a r hb] at h; exact h1 a c r ts hb (lexL_ind h0 h1 h2 f (a + 1) r ts h)
    | false =>
      rw [lexL_tok f a r hb] at h
      cases ht : tok (c :: r) with
      | error e => rw [ht] at h; cases h
      | ok x =>
        obtain ⟨k, t, n, m⟩ := x
        rw [ht] at h
        simp only at h
        cases hl : lexL f (a + m) ((c :: r).drop m) with
        | error e => rw [hl] at h; cases h
        | ok l' => rw [hl] at h; cases h; exact h2 a c r k t n m l' hb ht (lexL_ind h0 h1 h2 f (a + m) _ l' hl)
def stripT (t : Tok) : Int × List UInt8 × Int := (t.k, t.text, t.n)
def GoodT (y : Tok) : Prop := 1 ≤ y.k ∧ y.k ≤ 7 ∧ 1 ≤ (tokText y.k y.text y.n).length ∧ ∀ b, endsOk b → tok (tokText y.k y.text y.n ++ b) = .ok (y.k, y.text, y.n, (tokText y.k y.text y.n).length)
theorem lexL_last {f a : Nat} {l : List UInt8} {ts : List Tok} (h : lexL f a l = .ok ts) : ∃ ys, ts = ys ++ [⟨0, a + l.length, [], 0⟩] ∧ ∀ y ∈ ys, GoodT y := by
  refine lexL_ind (P := fun a l ts => ∃ ys, ts = ys ++ [⟨0, a + l.length, [], 0⟩] ∧ ∀ y ∈ ys, GoodT y) ?_ ?_ ?_ f a l ts h
  · intro a; exact ⟨[], rfl, fun _ h => by cases h⟩
  · rintro a c r ts _ ⟨ys, rfl, hy⟩
    exact ⟨ys, by rw [List.length_cons]; simp only [List.append_cancel_left_eq, List.cons.injEq, Tok.mk.injEq, true_and, and_true]; omega, hy⟩
  · rintro a c r k t n m ts _ ht ⟨ys, rfl, hy⟩
    have hm := tok_len ht
    have hk := tok_kind ht
    have hl := tok_mlen ht
    refine ⟨⟨k, a, t, n⟩ :: ys, ?_, ?_⟩
    · rw [List.length_drop, List.cons_append]; simp only [List.append_cancel_left_eq, List.cons.injEq, Tok.mk.injEq, true_and, and_true]; omega
    · intro y hy'
      rcases List.mem_cons.1 hy' with rfl | hy'
      · refine ⟨hk.1, hk.2, by rw [hl]; exact hm.1, fun b hb => ?_⟩
        show tok (tokText k t n ++ b) = _
        rw [← tok_text ht, tok_again ht b hb]
        simp only [List.length_take]
        rw [Nat.min_eq_left hm.2]
      · exact hy y hy'

/-! ### errors -/
theorem tok_errs {l : List UInt8} {e : Int} (h : tok l = .error e) : e = 20 ∨ e = 2 := by
  unfold tok at h
  split at h
  · cases h; exact .inl rfl
  · split at h
    · cases h
    · split at h
      · cases h
      · split at h
        · cases h
        · split at h
          · split at h
            · cases h
            · rename_i c r _ _ _ _ hr
              cases h
              unfold readE at hr ⊢
              split at hr
              · split at hr
                · exact absurd rfl hr
                · rename_i h1 h2; rw [if_pos h1, if_neg h2]; simp
              · rename_i h1; rw [if_neg h1]; simp
          · split at h
            · split at h
              · cases h; exact .inl rfl
              · split at h
                · cases h; exact .inl rfl
                · cases h
            · split at h
              · cases h; exact .inl rfl
              · cases h
theorem lexL_err : ∀ (f a : Nat) (l : List UInt8) (e : Int) (p : Nat), l.length ≤ f → lexL f a l = .error (e, p) → a ≤ p ∧ p < a + l.length ∧ (e = 20 ∨ e = 2)
  | f, a, [], e, p, _, h => by rw [lexL_nil] at h; cases h
  | 0, a, c :: r, e, p, hf, _ => by simp at hf
  | f + 1, a, c :: r, e, p, hf, h => by
    simp only [List.length_cons] at hf ⊢
    cases hb : blankB c with
    | true =>
      rw [lexL_blank f a r hb] at h
      have := lexL_err f (a + 1) r e p (by omega) h
      exact ⟨by omega, by omega, this.2.2⟩
    | false =>
      rw [lexL_tok f a r hb] at h
      cases ht : tok (c :: r) with
      | error x => rw [ht] at h; cases h; exact ⟨by omega, by omega, tok_errs ht⟩
      | ok x =>
        obtain ⟨k, t, n, m⟩ := x
        have hm := tok_len ht
        rw [List.length_cons] at hm
        rw [ht] at h
        simp only at h
        cases hl : lexL f (a + m) ((c :: r).drop m) with
        | error x =>
          rw [hl] at h; cases h
          have := lexL_err f (a + m) _ e p (by rw [List.length_drop, List.length_cons]; omega) hl
          rw [List.length_drop, List.length_cons] at this
          exact ⟨by omega, by omega, this.2.2⟩
        | ok l' => rw [hl] at h; cases h

/-! ### places -/
def shiftT (d : Nat) (t : Tok) : Tok := ⟨t.k, t.at' + d, t.text, t.n⟩
def shiftR (d : Nat) : Except (Int × Nat) (List Tok) → Except (Int × Nat) (List Tok)
  | .error (e, p) => .error (e, p + d)
  | .ok ts => .ok (ts.map (shiftT d))
theorem lexL_shift (d : Nat) : ∀ (f a : Nat) (l : List UInt8), lexL f (a + d) l = shiftR d (lexL f a l)
  | f, a, [] => by rw [lexL_nil, lexL_nil]; rfl
  | 0, a, c :: r => rfl
  | f + 1, a, c :: r => by
    cases hb : blankB c with
    | true => rw [lexL_blank f _ r hb, lexL_blank f _ r hb, ← lexL_shift d f (a + 1) r]; congr 1; omega
    | false =>
      rw [lexL_tok f _ r hb, lexL_tok f _ r hb]
      cases tok (c :: r) with
      | error x => rfl
      | ok x =>
        obtain ⟨k, t, n, m⟩ := x
        simp only
        have e : a + d + m = a + m + d := by omega
        rw [e, lexL_shift d f (a + m) _]
        cases lexL f (a + m) ((c :: r).drop m) with
        | error x => rfl
        | ok l' => rfl

/-! ### a text ahead of another one -/
def joinR (ts : List Tok) : Except (Int × Nat) (List Tok) → Except (Int × Nat) (List Tok)
  | .error e => .error e
  | .ok ys => .ok (ts.dropLast ++ ys)
theorem lexL_app (c0 : UInt8) (h0 : blankB c0 = true) (b : List UInt8) : ∀ (f a : Nat) (l : List UInt8) (ts : List Tok), l.length ≤ f → lexL f a l = .ok ts → ∀ g, l.length + 1 + b.length ≤ g →
    lexL g a (l ++ c0 :: b) = joinR ts (lexL b.length (a + l.length + 1) b)
  | f, a, [], ts, _, h, g, hg => by
    rw [lexL_nil] at h; cases h
    obtain ⟨g', rfl⟩ : ∃ g', g = g' + 1 := ⟨g - 1, by simp at hg; omega⟩
    rw [List.nil_append, lexL_blank g' a b h0, List.length_nil, Nat.add_zero, lexL_fuel b.length g' b.length (a + 1) b (by omega) (by simp at hg; omega) (by omega)]
    cases lexL b.length (a + 1) b with
    | error x => rfl
    | ok ys => rfl
  | 0, a, c :: r, ts, hf, _, _, _ => by simp at hf
  | f + 1, a, c :: r, ts, hf, h, g, hg => by
    simp only [List.length_cons] at hf hg ⊢
    obtain ⟨g', rfl⟩ : ∃ g', g = g' + 1 := ⟨g - 1, by omega⟩
    rw [List.cons_append]
    cases hb : blankB c with
    | true =>
      rw [lexL_blank f a r hb] at h
      rw [lexL_blank g' a _ hb, lexL_app c0 h0 b f (a + 1) r ts (by omega) h g' (by omega)]
      congr 2
      omega
    | false =>
      rw [lexL_tok f a r hb] at h
      rw [lexL_tok g' a _ hb]
      cases ht : tok (c :: r) with
      | error x => rw [ht] at h; cases h
      | ok x =>
        obtain ⟨k, t, n, m⟩ := x
        have hm := tok_len ht
        rw [List.length_cons] at hm
        rw [ht] at h
        rw [tok_more ht (c0 :: b) (.inr ⟨c0, b, rfl, h0⟩)]
        simp only at h ⊢
        cases hl : lexL f (a + m) ((c :: r).drop m) with
        | error x => rw [hl] at h; cases h
        | ok l' =>
          rw [hl] at h; cases h
          have ed : (c :: (r ++ c0 :: b)).drop m = (c :: r).drop m ++ c0 :: b := by
            rw [← List.cons_append, List.drop_append_of_le_length (by simpa using hm.2)]
          have ln : ((c :: r).drop m).length = r.length + 1 - m := by rw [List.length_drop, List.length_cons]
          rw [ed, lexL_app c0 h0 b f (a + m) _ l' (by rw [ln]; omega) hl g' (by rw [ln]; omega), ln]
          have e2 : a + m + (r.length + 1 - m) + 1 = a + (r.length + 1) + 1 := by omega
          rw [e2]
          obtain ⟨ys, hys, _⟩ := lexL_last hl
          cases lexL b.length (a + (r.length + 1) + 1) b with
          | error x => rfl
          | ok zs =>
            have hn : l' ≠ [] := by rw [hys]; simp
            simp only [joinR, List.dropLast_cons_of_ne_nil hn, List.cons_append]
theorem lexL_bad (b : List UInt8) (hb : ∀ x ∈ b, blankB x = true) : ∀ (f a : Nat) (l : List UInt8) (e : Int × Nat), l.length ≤ f → lexL f a l = .error e → ∀ g, l.length + b.length ≤ g → lexL g a (l ++ b) = .error e
  | f, a, [], e, _, h, g, hg => by rw [lexL_nil] at h; cases h
  | 0, a, c :: r, e, hf, _, _, _ => by simp at hf
  | f + 1, a, c :: r, e, hf, h, g, hg => by
    simp only [List.length_cons] at hf hg
    obtain ⟨g', rfl⟩ : ∃ g', g = g' + 1 := ⟨g - 1, by omega⟩
    rw [List.cons_append]
    cases hc : blankB c with
    | true =>
      rw [lexL_blank f a r hc] at h
      rw [lexL_blank g' a _ hc]
      exact lexL_bad b hb f (a + 1) r e (by omega) h g' (by omega)
    | false =>
      rw [lexL_tok f a r hc] at h
      rw [lexL_tok g' a _ hc]
      cases ht : tok (c :: r) with
      | error x => rw [ht] at h; rw [tok_bad ht b hb]; exact h
      | ok x =>
        obtain ⟨k, t, n, m⟩ := x
        have hm := tok_len ht
        rw [List.length_cons] at hm
        rw [ht] at h
        rw [tok_more ht b (by cases b with | nil => exact .inl rfl | cons y z => exact .inr ⟨y, z, rfl, hb y (List.mem_cons_self ..)⟩)]
        simp only at h ⊢
        have ed : (c :: (r ++ b)).drop m = (c :: r).drop m ++ b := by
          rw [← List.cons_append, List.drop_append_of_le_length (by simpa using hm.2)]
        have ln : ((c :: r).drop m).length = r.length + 1 - m := by rw [List.length_drop, List.length_cons]
        cases hl : lexL f (a + m) ((c :: r).drop m) with
        | error x =>
          rw [hl] at h; cases h
          rw [ed, lexL_bad b hb f (a + m) _ e (by rw [ln]; omega) hl g' (by rw [ln]; omega)]
        | ok l' => rw [hl] at h; cases h
theorem lexL_ahead (l : List UInt8) : ∀ (p : List UInt8), (∀ x ∈ p, blankB x = true) → ∀ f a, p.length ≤ f → lexL f a (p ++ l) = lexL (f - p.length) (a + p.length) l
  | [], _, f, a, _ => by simp
  | c :: p, hp, f, a, hf => by
    simp only [List.length_cons] at hf ⊢
    obtain ⟨f', rfl⟩ : ∃ f', f = f' + 1 := ⟨f - 1, by omega⟩
    rw [List.cons_append, lexL_blank f' a _ (hp c (List.mem_cons_self ..)), lexL_ahead l p (fun x hx => hp x (List.mem_cons_of_mem _ hx)) f' (a + 1) (by omega)]
    congr 1 <;> omega
theorem lexL_blanks (b : List UInt8) (hb : ∀ x ∈ b, blankB x = true) (f a : Nat) (hf : b.length ≤ f) : lexL f a b = .ok [⟨0, a + b.length, [], 0⟩] := by
  have := lexL_ahead [] b hb f a hf
  rw [List.append_nil, lexL_nil] at this
  exact this

/-! ### tokens, written and read again -/
def backL (ts : List Tok) : List UInt8 := ts.flatMap fun t => tokText t.k t.text t.n ++ [32]
theorem backL_cons (t : Tok) (ts : List Tok) : backL (t :: ts) = tokText t.k t.text t.n ++ 32 :: backL ts := by simp [backL]
theorem backL_app (ts us : List Tok) : backL (ts ++ us) = backL ts ++ backL us := by simp [backL]
theorem lexL_back : ∀ (ys : List Tok), (∀ y ∈ ys, GoodT y) → ∀ g a, (backL ys ++ [32]).length ≤ g → ∃ ts, lexL g a (backL ys ++ [32]) = .ok ts ∧ ts.map stripT = ys.map stripT ++ [(0, [], 0)]
  | [], _, g, a, hg => ⟨_, lexL_blanks [32] (by decide) g a hg, rfl⟩
  | y :: ys, hy, g, a, hg => by
    obtain ⟨_, _, h1, hg'⟩ := hy y (List.mem_cons_self ..)
    have ht := hg' (32 :: (backL ys ++ [32])) (.inr ⟨32, _, rfl, rfl⟩)
    have e0 : backL (y :: ys) ++ [32] = tokText y.k y.text y.n ++ 32 :: (backL ys ++ [32]) := by rw [backL_cons]; simp
    rw [e0] at hg ⊢
    generalize tokText y.k y.text y.n = T at *
    obtain ⟨c, r, rfl⟩ : ∃ c r, T = c :: r := by cases T with | nil => simp at h1 | cons c r => exact ⟨c, r, rfl⟩
    rw [List.length_append, List.length_cons, List.length_cons] at hg
    obtain ⟨g', rfl⟩ : ∃ g', g = g' + 1 := ⟨g - 1, by omega⟩
    have hc : blankB c = false := by
      rw [Bool.eq_false_iff]
      intro hb
      rw [List.cons_append, tok] at ht
      rcases blank_cases hb with rfl | rfl
      · rw [if_neg (by decide), if_neg (by decide), if_neg (fun x => absurd x.1 (by decide)), if_neg (by decide), if_neg (by decide)] at ht
        split at ht
        · cases ht
        · rename_i x hx
          have hp := List.isPrefixOf_iff_prefix.1 (List.find?_some (p := fun x : List UInt8 => x.isPrefixOf _) hx)
          have hm := signs_facts x (List.mem_of_find?_eq_some hx)
          cases x with
          | nil => have := hm.1; simp at this
          | cons d z => obtain ⟨q, hq⟩ := hp; simp at hq; rw [hq.1] at hm; exact hm.2.2.1 (List.mem_cons_self ..)
      · rw [if_neg (by decide), if_neg (by decide), if_neg (fun x => absurd x.1 (by decide)), if_neg (by decide), if_neg (by decide)] at ht
        split at ht
        · cases ht
        · rename_i x hx
          have hp := List.isPrefixOf_iff_prefix.1 (List.find?_some (p := fun x : List UInt8 => x.isPrefixOf _) hx)
          have hm := signs_facts x (List.mem_of_find?_eq_some hx)
          cases x with
          | nil => have := hm.1; simp at this
          | cons d z => obtain ⟨q, hq⟩ := hp; simp at hq; rw [hq.1] at hm; exact hm.2.2.2 (List.mem_cons_self ..)
    have ed : (c :: r ++ 32 :: (backL ys ++ [32])).drop (c :: r).length = 32 :: (backL ys ++ [32]) := List.drop_left
    obtain ⟨g2, rfl⟩ : ∃ g2, g' = g2 + 1 := ⟨g' - 1, by omega⟩
    obtain ⟨ts, hts, hs⟩ := lexL_back ys (fun z hz => hy z (List.mem_cons_of_mem _ hz)) g2 (a + (c :: r).length + 1) (by omega)
    refine ⟨⟨y.k, a, y.text, y.n⟩ :: ts, ?_, ?_⟩
    · rw [List.cons_append] at ht ed ⊢
      rw [lexL_tok (g2 + 1) a _ hc, ht]
      simp only [ed]
      rw [lexL_blank g2 _ _ (by rfl), hts]
    · rw [List.map_cons, hs]; rfl

/-! ### tokens in order -/
/-- from place p on the text is these tokens, blanks between them -/
def Tiles (s : List UInt8) : Nat → List Tok → Prop
  | p, [] => p = s.length
  | p, t :: ts => p ≤ t.at' ∧ t.at' ≤ s.length ∧ (t.k = 0 ↔ ts = []) ∧ (∀ k, p ≤ k → k < t.at' → ∃ c, s[k]? = some c ∧ blankB c = true) ∧
    (t.k ≠ 0 → t.at' + (tokText t.k t.text t.n).length ≤ s.length ∧ (s.drop t.at').take (tokText t.k t.text t.n).length = tokText t.k t.text t.n) ∧
    Tiles s (if t.k = 0 then t.at' else t.at' + (tokText t.k t.text t.n).length) ts
theorem lexL_tiles (s : List UInt8) (f a : Nat) (ts : List Tok) (ha : a ≤ s.length) (h : lexL f a (s.drop a) = .ok ts) : Tiles s a ts := by
  have key := lexL_ind (P := fun a l ts => a ≤ s.length → l = s.drop a → ts ≠ [] ∧ ∀ p, p ≤ a → (∀ k, p ≤ k → k < a → ∃ c, s[k]? = some c ∧ blankB c = true) → Tiles s p ts) ?_ ?_ ?_ f a (s.drop a) ts h
  · exact (key ha rfl).2 a (Nat.le_refl _) (fun k h1 h2 => by omega)
  · intro a ha hl
    have hlen : s.length ≤ a := List.drop_eq_nil_iff.1 hl.symm
    refine ⟨by simp, fun p hp hbl => ⟨hp, ha, ⟨fun _ => rfl, fun _ => rfl⟩, hbl, fun hn => absurd rfl hn, ?_⟩⟩
    show a = s.length
    omega
  · intro a c r ts hc ih ha hl
    have hlt : a < s.length := by
      rcases Nat.lt_or_ge a s.length with h | h
      · exact h
      · rw [List.drop_of_length_le h] at hl; cases hl
    have hd := List.drop_eq_getElem_cons hlt
    rw [hd] at hl
    simp only [List.cons.injEq] at hl
    obtain ⟨rfl, rfl⟩ := hl
    obtain ⟨hn, hT⟩ := ih (by omega) rfl
    refine ⟨hn, fun p hp hbl => hT p (by omega) (fun k h1 h2 => ?_)⟩
    by_cases e : k = a
    · subst e; exact ⟨_, List.getElem?_eq_getElem hlt, hc⟩
    · exact hbl k h1 (by omega)
  · intro a c r k t n m ts hc ht ih ha hl
    have hm := tok_len ht
    have hk := tok_kind ht
    have hx := tok_text ht
    have hml := tok_mlen ht
    rw [hl, List.length_drop] at hm
    obtain ⟨hn, hT⟩ := ih (by omega) (by rw [hl, List.drop_drop])
    refine ⟨by simp, fun p hp hbl => ⟨hp, ha, ⟨fun h => by simp only at h; omega, fun h => absurd h hn⟩, hbl, fun _ => ⟨?_, ?_⟩, ?_⟩⟩
    · show a + (tokText k t n).length ≤ s.length
      omega
    · show (s.drop a).take (tokText k t n).length = tokText k t n
      rw [hml, ← hl, hx]
    · show Tiles s (if k = 0 then a else a + (tokText k t n).length) ts
      rw [if_neg (by omega), hml]
      exact hT (a + m) (Nat.le_refl _) (fun k h1 h2 => by omega)
end Go.Proofs.YteffobcelgbiiaaDoor
