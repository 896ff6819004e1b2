/- Layer 5, plain: laws of a text's tokens: each token is read wherever it stands; what it was read from; blanks. No program in sight. -/
import Derived.Test.YteffobcelgbiiaaDoorLp
namespace Go.Proofs.YteffobcelgbiiaaDoor
open Go.RowKit

/-! ### numerals -/
theorem valD_snocr (l : List UInt8) (c : UInt8) : ∀ acc, valD acc (l ++ [c]) = valD acc l * 10 + (c.toNat - 48) := by
  induction l with
  | nil => intro acc; rfl
  | cons d r ih => intro acc; exact ih (acc * 10 + (d.toNat - 48))
theorem dec_val : ∀ (n : Nat) (l : List UInt8), l.length = n → l ≠ [] → l.all isDig = true → (l.head? = some 48 → l.length ≤ 1) → Lib.decDigits (valD 0 l) = l := by
  intro n
  induction n with
  | zero => intro l hl h0; exact absurd (List.eq_nil_of_length_eq_zero hl) h0
  | succ n ih =>
    intro l hl h0 hd hh
    obtain ⟨y, c, rfl⟩ : ∃ y c, l = y ++ [c] := ⟨l.dropLast, l.getLast h0, (List.dropLast_concat_getLast h0).symm⟩
    rw [List.all_append] at hd
    simp only [List.all_cons, List.all_nil, Bool.and_true, Bool.and_eq_true] at hd
    obtain ⟨hy, hc⟩ := hd
    have hc2 := (isDig_iff c).1 hc
    rw [valD_snocr, Lib.decDigits]
    by_cases e : y = []
    · subst e
      have : valD 0 [] = 0 := rfl
      rw [this, dif_pos (by omega)]
      have : 48 + (0 * 10 + (c.toNat - 48)) = c.toNat := by omega
      rw [this]
      simp
    · have hl2 : 1 ≤ y.length := List.length_pos_iff.2 e
      have hh2 : y.head? ≠ some 48 := by
        intro h
        have := hh (by rw [List.head?_append, h]; rfl)
        rw [List.length_append, List.length_singleton] at this
        omega
      have hv : 1 ≤ valD 0 y := by
        cases y with
        | nil => exact absurd rfl e
        | cons d r =>
          have h1 : d ≠ 48 := by simpa using hh2
          have h2 : valD 0 (d :: r) = valD (0 * 10 + (d.toNat - 48)) r := rfl
          rw [h2]
          have h3 := valD_ge r (0 * 10 + (d.toNat - 48))
          simp only [List.all_cons, Bool.and_eq_true] at hy
          have h4 := (isDig_iff d).1 hy.1
          have h5 : d.toNat ≠ 48 := fun h => h1 (UInt8.toNat_inj.1 (by rw [h]; rfl))
          omega
      rw [dif_neg (by omega)]
      have e1 : (valD 0 y * 10 + (c.toNat - 48)) / 10 = valD 0 y := by omega
      have e2 : 48 + (valD 0 y * 10 + (c.toNat - 48)) % 10 = c.toNat := by omega
      rw [e1, e2, ih y (by simp at hl; exact hl) e hy (fun h => absurd h hh2)]
      simp
theorem itoa_read {l : List UInt8} (h : readE l = 0) : Lib.itoa (readN l) = l := by
  unfold readE at h
  split at h
  · rename_i hn
    split at h
    · rename_i hv
      unfold readN
      rw [if_pos ⟨hn, hv⟩]
      unfold Lib.itoa
      rw [if_neg (by omega)]
      unfold numeral at hn
      simp only [Bool.not_eq_true', Bool.or_eq_false_iff, Bool.and_eq_false_iff, Bool.not_eq_false'] at hn
      have h0 : l ≠ [] := by intro e; subst e; simp at hn
      rw [Int.toNat_natCast]
      exact dec_val l.length l rfl h0 hn.2 (fun hh => by
        rcases hn.1.2 with h1 | h1
        · rw [hh] at h1; simp at h1
        · simpa using h1)
    · cases h
  · cases h

/-! ### a token stands by itself -/
/-- what stands behind a text: nothing, or what begins with a blank -/
def blankB (c : UInt8) : Bool := c == 32 || c == 10
def endsOk (b : List UInt8) : Prop := b = [] ∨ ∃ c r, b = c :: r ∧ blankB c = true
theorem blank_cases {c : UInt8} (h : blankB c = true) : c = 32 ∨ c = 10 := by simpa [blankB] using h
theorem blank_body {c : UInt8} (h : blankB c = true) : bodyB c = false := by
  rcases blank_cases h with rfl | rfl <;> decide
theorem blank_great {c : UInt8} (h : blankB c = true) : greatB c = false := by
  rcases blank_cases h with rfl | rfl <;> decide
theorem takeWhile_ends (p : UInt8 → Bool) (hp : ∀ c, blankB c = true → p c = false) {b : List UInt8} (hb : endsOk b) : ∀ l : List UInt8, (l ++ b).takeWhile p = l.takeWhile p
  | [] => by
    rcases hb with rfl | ⟨c, r, rfl, hc⟩
    · rfl
    · rw [List.nil_append, List.takeWhile_cons_of_neg (by simp [hp c hc])]; rfl
  | c :: l => by
    by_cases h : p c = true
    · rw [List.cons_append, List.takeWhile_cons_of_pos h, List.takeWhile_cons_of_pos h, takeWhile_ends p hp hb l]
    · rw [List.cons_append, List.takeWhile_cons_of_neg h, List.takeWhile_cons_of_neg h]
theorem runL_ends {b : List UInt8} (hb : endsOk b) (l : List UInt8) : runL (l ++ b) = runL l := takeWhile_ends bodyB (fun _ h => blank_body h) hb l
theorem q2_app (b : List UInt8) : ∀ (l : List UInt8) (o : Bool) (k : Nat), q2 o l = some k → q2 o (l ++ b) = some k
  | [], o, k, h => by simp [q2] at h
  | c :: l, o, k, h => by
    rw [List.cons_append]
    rw [q2] at h ⊢
    split at h
    · rename_i hc; rw [if_pos hc]; exact h
    · rename_i hc
      rw [if_neg hc]
      cases e : q2 (c == 92 && !o) l with
      | none => rw [e] at h; cases h
      | some j => rw [e] at h; rw [q2_app b l _ j e]; exact h
theorem q2_blanks : ∀ (b : List UInt8) (o : Bool), (∀ c ∈ b, blankB c = true) → q2 o b = none
  | [], _, _ => rfl
  | c :: b, o, h => by
    have hc := blank_cases (h c (List.mem_cons_self ..))
    rw [q2, if_neg (by rintro ⟨rfl, _⟩; revert hc; decide), q2_blanks b _ (fun x hx => h x (List.mem_cons_of_mem _ hx))]
    rfl
theorem q2_none (b : List UInt8) (hb : ∀ c ∈ b, blankB c = true) : ∀ (l : List UInt8) (o : Bool), q2 o l = none → q2 o (l ++ b) = none
  | [], o, _ => q2_blanks b o hb
  | c :: l, o, h => by
    rw [List.cons_append]
    rw [q2] at h ⊢
    split at h
    · cases h
    · rename_i hc
      rw [if_neg hc]
      cases e : q2 (c == 92 && !o) l with
      | none => rw [q2_none b hb l _ e]; rfl
      | some j => rw [e] at h; cases h
theorem q2_take : ∀ (l : List UInt8) (o : Bool) (k : Nat), q2 o l = some k → q2 o (l.take k) = some k
  | [], o, k, h => by simp [q2] at h
  | c :: l, o, k, h => by
    have h' := h
    rw [q2] at h
    split at h
    · rename_i hc; cases h; rw [List.take_succ_cons, q2, if_pos hc]
    · rename_i hc
      cases e : q2 (c == 92 && !o) l with
      | none => rw [e] at h; cases h
      | some j =>
        rw [e] at h
        simp only [Option.map_some, Option.some.injEq] at h
        subst h
        rw [List.take_succ_cons, q2, if_neg hc, q2_take l _ j e]; rfl
theorem sign_ends {b : List UInt8} (hb : endsOk b) {x : List UInt8} (hx : x ∈ signsL) (l : List UInt8) : x.isPrefixOf (l ++ b) = x.isPrefixOf l := by
  rw [Bool.eq_iff_iff, List.isPrefixOf_iff_prefix, List.isPrefixOf_iff_prefix]
  obtain ⟨_, _, h32, h10⟩ := signs_facts x hx
  constructor
  · intro h
    rcases hb with rfl | ⟨c, r, rfl, hc⟩
    · simpa using h
    · rcases Nat.lt_or_ge l.length x.length with hl | hl
      · exfalso
        obtain ⟨t, ht⟩ := h
        have h1 : (x ++ t)[l.length]? = some c := by rw [ht]; simp
        rw [List.getElem?_append_left hl] at h1
        have hm := List.mem_of_getElem? h1
        rcases blank_cases hc with rfl | rfl
        · exact h32 hm
        · exact h10 hm
      · exact List.prefix_of_prefix_length_le h (List.prefix_append l _) hl
  · intro h; exact h.trans (List.prefix_append l b)
theorem find_congr {p q : List UInt8 → Bool} : ∀ (l : List (List UInt8)), (∀ x ∈ l, p x = q x) → l.find? p = l.find? q
  | [], _ => rfl
  | x :: l, h => by
    rw [List.find?_cons, List.find?_cons, h x (List.mem_cons_self ..), find_congr l (fun y hy => h y (List.mem_cons_of_mem _ hy))]
theorem head_any {b : List UInt8} (hb : endsOk b) (r : List UInt8) : (r ++ b).head?.any greatB = r.head?.any greatB := by
  cases r with
  | cons d r => rfl
  | nil =>
    rcases hb with rfl | ⟨c, t, rfl, hc⟩
    · rfl
    · simp [blank_great hc]
/-- a token is read whatever stands behind a blank -/
theorem tok_app (c : UInt8) (r b : List UInt8) (hb : endsOk b) (hq : c = 34 → (qlen r).isSome = true ∨ ∀ x ∈ b, blankB x = true) : tok (c :: (r ++ b)) = tok (c :: r) := by
  have e1 : runL (c :: (r ++ b)) = runL (c :: r) := runL_ends hb (c :: r)
  have e3 : signsL.find? (fun x => x.isPrefixOf (c :: (r ++ b))) = signsL.find? (fun x => x.isPrefixOf (c :: r)) := find_congr _ (fun x hx => sign_ends hb hx (c :: r))
  unfold tok
  simp only [e1, runL_ends hb r, head_any hb r, e3]
  by_cases h34 : c = 34
  · subst h34
    have hqq : qlen (r ++ b) = qlen r := by
      unfold qlen at hq ⊢
      cases e : q2 false r with
      | some k => exact q2_app b r false k e
      | none =>
        rcases hq rfl with h | h
        · rw [e] at h; cases h
        · exact q2_none b h r false e
    rw [hqq]
    cases e : qlen r with
    | none => rfl
    | some k =>
      have hk := q2_le r false k e
      have et : (34 :: (r ++ b)).take (1 + k) = (34 :: r).take (1 + k) := by
        rw [← List.cons_append, List.take_append_of_le_length (by simp; omega)]
      simp only [et]
  · simp only [if_neg h34]

def tokText (k : Int) (t : List UInt8) (n : Int) : List UInt8 := if k = 3 then 35 :: t else if k = 4 then Lib.itoa n else if k = 5 then quoteL t else t
theorem runL_take (l : List UInt8) : l.take (runL l).length = runL l := (List.prefix_iff_eq_take.1 (List.takeWhile_prefix bodyB)).symm
theorem runL_idem (l : List UInt8) : runL (runL l) = runL l := by
  unfold runL
  induction l with
  | nil => rfl
  | cons c l ih =>
    by_cases h : bodyB c = true
    · rw [List.takeWhile_cons_of_pos h, List.takeWhile_cons_of_pos h, ih]
    · rw [List.takeWhile_cons_of_neg h]; rfl
theorem runL_cons {c : UInt8} (r : List UInt8) (h : bodyB c = true) : runL (c :: r) = c :: runL r := List.takeWhile_cons_of_pos h
theorem body_small {c : UInt8} (h : smallB c = true) : bodyB c = true := by unfold bodyB; rw [h]; rfl
theorem body_great {c : UInt8} (h : greatB c = true) : bodyB c = true := by unfold bodyB; rw [h]; simp
theorem body_dig {c : UInt8} (h : isDig c = true) : bodyB c = true := by unfold bodyB; rw [h]; simp
theorem tok_kind {l : List UInt8} {k : Int} {t : List UInt8} {n : Int} {m : Nat} (h : tok l = .ok (k, t, n, m)) : 1 ≤ k ∧ k ≤ 7 := by
  unfold tok at h
  split at h
  · cases h
  · split at h
    · simp only [Except.ok.injEq, Prod.mk.injEq] at h; obtain ⟨rfl, _⟩ := h; split <;> omega
    · split at h
      · simp only [Except.ok.injEq, Prod.mk.injEq] at h; omega
      · split at h
        · simp only [Except.ok.injEq, Prod.mk.injEq] at h; omega
        · split at h
          · split at h
            · simp only [Except.ok.injEq, Prod.mk.injEq] at h; omega
            · cases h
          · split at h
            · split at h
              · cases h
              · split at h
                · cases h
                · simp only [Except.ok.injEq, Prod.mk.injEq] at h; omega
            · split at h
              · cases h
              · simp only [Except.ok.injEq, Prod.mk.injEq] at h; omega
/-- what a token was read from: its text; by itself it is the same token -/
theorem tok_self {l : List UInt8} {k : Int} {t : List UInt8} {n : Int} {m : Nat} (h : tok l = .ok (k, t, n, m)) : l.take m = tokText k t n ∧ tok (l.take m) = .ok (k, t, n, m) := by
  have h0 := h
  unfold tok at h
  split at h
  · cases h
  · rename_i c r
    split at h
    · rename_i h1
      simp only [Except.ok.injEq, Prod.mk.injEq] at h
      obtain ⟨rfl, rfl, rfl, rfl⟩ := h
      rw [runL_take]
      refine ⟨?_, ?_⟩
      · unfold tokText; split <;> rfl
      · have e : runL (c :: r) = c :: runL r := runL_cons r (body_small h1)
        rw [e, tok, if_pos h1, ← e, runL_idem]
    · rename_i h1
      split at h
      · rename_i h2
        simp only [Except.ok.injEq, Prod.mk.injEq] at h
        obtain ⟨rfl, rfl, rfl, rfl⟩ := h
        rw [runL_take]
        refine ⟨rfl, ?_⟩
        have e : runL (c :: r) = c :: runL r := runL_cons r (body_great h2)
        rw [e, tok, if_neg h1, if_pos h2, ← e, runL_idem]
      · rename_i h2
        split at h
        · rename_i h3
          simp only [Except.ok.injEq, Prod.mk.injEq] at h
          obtain ⟨rfl, rfl, rfl, rfl⟩ := h
          have e : (c :: r).take (1 + (runL r).length) = 35 :: runL r := by
            rw [Nat.add_comm, List.take_succ_cons, runL_take, h3.1]
          rw [e]
          refine ⟨rfl, ?_⟩
          have hh : (runL r).head?.any greatB = true := by
            cases r with
            | nil => exact absurd h3.2 (by simp)
            | cons d r => rw [runL_cons r (body_great (by simpa using h3.2))]; simpa using h3.2
          rw [tok, if_neg (by decide), if_neg (by decide), if_pos ⟨rfl, hh⟩, runL_idem]
        · rename_i h3
          split at h
          · rename_i h4
            split at h
            · rename_i h5
              simp only [Except.ok.injEq, Prod.mk.injEq] at h
              obtain ⟨rfl, rfl, rfl, rfl⟩ := h
              rw [runL_take]
              refine ⟨(itoa_read h5).symm, ?_⟩
              have e : runL (c :: r) = c :: runL r := runL_cons r (body_dig h4)
              have n3 : c ≠ 35 := by intro hh; subst hh; exact absurd h4 (by decide)
              rw [e, tok, if_neg h1, if_neg h2, if_neg (fun x => n3 x.1), if_pos h4, ← e, runL_idem, if_pos h5]
            · cases h
          · rename_i h4
            split at h
            · rename_i h5
              split at h
              · cases h
              · rename_i j hq
                split at h
                · cases h
                · rename_i t' hu
                  simp only [Except.ok.injEq, Prod.mk.injEq] at h
                  obtain ⟨rfl, rfl, rfl, rfl⟩ := h
                  refine ⟨(unq_some hu).symm, ?_⟩
                  subst h5
                  have e : (34 :: r).take (1 + j) = 34 :: r.take j := by rw [Nat.add_comm, List.take_succ_cons]
                  have hj : qlen (r.take j) = some j := q2_take r false j hq
                  rw [e] at hu ⊢
                  have et : (34 :: r.take j).take (1 + j) = 34 :: r.take j := by
                    rw [Nat.add_comm, List.take_succ_cons, List.take_take, Nat.min_self]
                  rw [tok, if_neg (by decide), if_neg (by decide), if_neg (fun x => absurd x.1 (by decide)), if_neg (by decide), if_pos rfl]
                  simp only [hj, et, hu]
            · rename_i h5
              split at h
              · cases h
              · rename_i x hx
                simp only [Except.ok.injEq, Prod.mk.injEq] at h
                obtain ⟨rfl, rfl, rfl, rfl⟩ := h
                have hp := List.isPrefixOf_iff_prefix.1 (List.find?_some (p := fun x : List UInt8 => x.isPrefixOf (c :: r)) hx)
                have hm := List.mem_of_find?_eq_some hx
                have e : (c :: r).take x.length = x := (List.prefix_iff_eq_take.1 hp).symm
                rw [e]
                refine ⟨rfl, ?_⟩
                obtain ⟨d, y, rfl⟩ : ∃ d y, x = d :: y := by
                  have := (signs_facts x hm).1
                  cases x with
                  | nil => simp at this
                  | cons d y => exact ⟨d, y, rfl⟩
                have hd : d = c := by
                  obtain ⟨z, hz⟩ := hp
                  simp at hz
                  exact hz.1
                subst hd
                have all : ∀ x ∈ signsL, smallB (x.headD 0) = false ∧ greatB (x.headD 0) = false ∧ x.headD 0 ≠ 35 ∧ isDig (x.headD 0) = false ∧ x.headD 0 ≠ 34 ∧ signsL.find? (fun z => z.isPrefixOf x) = some x := by decide +kernel
                have ha := all _ hm
                rw [List.headD_cons] at ha
                obtain ⟨a1, a2, a3, a4, a5, a6⟩ := ha
                rw [tok, if_neg (by simp [a1]), if_neg (by simp [a2]), if_neg (fun x => a3 x.1), if_neg (by simp [a4]), if_neg a5]
                simp only [a6]
theorem tok_text {l : List UInt8} {k : Int} {t : List UInt8} {n : Int} {m : Nat} (h : tok l = .ok (k, t, n, m)) : l.take m = tokText k t n := (tok_self h).1
theorem tok_mlen {l : List UInt8} {k : Int} {t : List UInt8} {n : Int} {m : Nat} (h : tok l = .ok (k, t, n, m)) : (tokText k t n).length = m := by
  rw [← tok_text h, List.length_take]
  have := tok_len h
  omega
/-- a token that was read is read from its own text, whatever stands behind a blank -/
theorem tok_again {l : List UInt8} {k : Int} {t : List UInt8} {n : Int} {m : Nat} (h : tok l = .ok (k, t, n, m)) (b : List UInt8) (hb : endsOk b) : tok (l.take m ++ b) = .ok (k, t, n, m) := by
  have h2 := (tok_self h).2
  cases e : l.take m with
  | nil => rw [e, tok] at h2; cases h2
  | cons c r =>
    rw [e] at h2
    rw [List.cons_append, tok_app c r b hb (fun h34 => by
      left
      subst h34
      rw [tok, if_neg (by decide), if_neg (by decide), if_neg (fun x => absurd x.1 (by decide)), if_neg (by decide), if_pos rfl] at h2
      cases eq : qlen r with
      | none => rw [eq] at h2; cases h2
      | some k => rfl), h2]
theorem tok_more {c : UInt8} {r : List UInt8} {x : Int × List UInt8 × Int × Nat} (h : tok (c :: r) = .ok x) (b : List UInt8) (hb : endsOk b) : tok (c :: (r ++ b)) = .ok x := by
  rw [tok_app c r b hb (fun h34 => by
      left
      subst h34
      rw [tok, if_neg (by decide), if_neg (by decide), if_neg (fun x => absurd x.1 (by decide)), if_neg (by decide), if_pos rfl] at h
      cases eq : qlen r with
      | none => rw [eq] at h; cases h
      | some k => rfl), h]
theorem tok_bad {c : UInt8} {r : List UInt8} {x : Int} (h : tok (c :: r) = .error x) (b : List UInt8) (hb : ∀ y ∈ b, blankB y = true) : tok (c :: (r ++ b)) = .error x := by
  rw [tok_app c r b (by cases b with | nil => exact .inl rfl | cons y z => exact .inr ⟨y, z, rfl, hb y (List.mem_cons_self ..)⟩) (fun _ => .inr hb), h]
end Go.Proofs.YteffobcelgbiiaaDoor
