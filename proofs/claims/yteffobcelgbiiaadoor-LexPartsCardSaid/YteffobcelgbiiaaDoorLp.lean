/- Layer 5, plain: what a text's tokens are, as functions of lists of bytes. No program in sight. -/
import Derived.Test.YteffobcelgbiiaaDoorWp
namespace Go.Proofs.YteffobcelgbiiaaDoor
open Go.RowKit

def smallB (c : UInt8) : Bool := (decide (97 ≤ c.toNat) && decide (c.toNat ≤ 122)) || c == 95
def greatB (c : UInt8) : Bool := decide (65 ≤ c.toNat) && decide (c.toNat ≤ 90)
def bodyB (c : UInt8) : Bool := smallB c || greatB c || isDig c
def wordsL : List (List UInt8) := [[108, 101, 116], [114, 101, 99], [105, 110], [102, 117, 110], [109, 97, 116, 99, 104], [119, 105, 116, 104], [101, 110, 100], [105, 102], [116, 104, 101, 110], [101, 108, 115, 101], [116, 114, 117, 101], [102, 97, 108, 115, 101], [114, 97, 105, 115, 101], [116, 114, 121], [110, 111, 116], [114, 101, 102], [97, 114, 114, 97, 121], [103, 101, 116], [115, 101, 116], [108, 101, 110], [115, 105, 122, 101], [98, 121, 116, 101], [99, 97, 116], [103, 101, 116, 99], [112, 117, 116, 99]]
def signsL : List (List UInt8) := [[45, 62], [58, 61], [38, 38], [124, 124], [40], [41], [123], [125], [61], [59], [44], [46], [124], [43], [45], [42], [47], [37], [60], [33]]
def wordsB : List UInt8 := [32, 108, 101, 116, 32, 114, 101, 99, 32, 105, 110, 32, 102, 117, 110, 32, 109, 97, 116, 99, 104, 32, 119, 105, 116, 104, 32, 101, 110, 100, 32, 105, 102, 32, 116, 104, 101, 110, 32, 101, 108, 115, 101, 32, 116, 114, 117, 101, 32, 102, 97, 108, 115, 101, 32, 114, 97, 105, 115, 101, 32, 116, 114, 121, 32, 110, 111, 116, 32, 114, 101, 102, 32, 97, 114, 114, 97, 121, 32, 103, 101, 116, 32, 115, 101, 116, 32, 108, 101, 110, 32, 115, 105, 122, 101, 32, 98, 121, 116, 101, 32, 99, 97, 116, 32, 103, 101, 116, 99, 32, 112, 117, 116, 99, 32]
def signsB : List UInt8 := [45, 62, 32, 58, 61, 32, 38, 38, 32, 124, 124, 32, 40, 32, 41, 32, 123, 32, 125, 32, 61, 32, 59, 32, 44, 32, 46, 32, 124, 32, 43, 32, 45, 32, 42, 32, 47, 32, 37, 32, 60, 32, 33]
def isWordB (s : List UInt8) : Bool := wordsL.contains s
def runL (l : List UInt8) : List UInt8 := l.takeWhile bodyB
def isNameB (s : List UInt8) : Bool := match s with
  | [] => false
  | c :: _ => smallB c && s.all bodyB && !isWordB s

/-- of what stands behind a quotation mark: the bytes till the one that ends it, with it; 'odd': is the next byte taken as it stands? -/
def q2 : Bool → List UInt8 → Option Nat
  | _, [] => none
  | odd, c :: r => if c = 34 ∧ odd = false then some 1 else (q2 (c == 92 && !odd) r).map (· + 1)
def qlen (l : List UInt8) : Option Nat := q2 false l
theorem q2_skip (d : UInt8) (r : List UInt8) : q2 true (d :: r) = (q2 false r).map (· + 1) := by
  simp [q2]
theorem qlen_esc (d : UInt8) (r : List UInt8) : qlen (92 :: d :: r) = (qlen r).map (· + 2) := by
  unfold qlen
  have e : q2 false (92 :: d :: r) = (q2 true (d :: r)).map (· + 1) := by rw [q2]; simp
  rw [e, q2_skip]
  cases q2 false r <;> rfl
theorem qlen_end (r : List UInt8) : qlen (34 :: r) = some 1 := by unfold qlen; rw [q2]; simp
theorem qlen_other (c : UInt8) (r : List UInt8) (h : c ≠ 92) (h2 : c ≠ 34) : qlen (c :: r) = (qlen r).map (· + 1) := by
  unfold qlen; rw [q2, if_neg (fun x => h2 x.1), show (c == 92) = false from beq_eq_false_iff_ne.2 h]; rfl
theorem qlen_one : qlen [92] = none := by unfold qlen; rw [q2]; simp [q2]

/-- how many bytes 92 a text ends with -/
def bsOf (l : List UInt8) : Nat := (l.reverse.takeWhile (· == 92)).length
theorem bsOf_snoc (l : List UInt8) (c : UInt8) : bsOf (l ++ [c]) = if c = 92 then bsOf l + 1 else 0 := by
  unfold bsOf
  rw [List.reverse_append]
  by_cases h : c = 92
  · simp [h]
  · simp [h]

/-- a token: its kind, text and number, and how many bytes it has; or what is wrong -/
def tok (l : List UInt8) : Except Int (Int × List UInt8 × Int × Nat) := match l with
  | [] => .error 20
  | c :: r =>
    if smallB c = true then .ok (if isWordB (runL l) = true then 6 else 1, runL l, 0, (runL l).length)
    else if greatB c = true then .ok (2, runL l, 0, (runL l).length)
    else if c = 35 ∧ r.head?.any greatB = true then .ok (3, runL r, 0, 1 + (runL r).length)
    else if isDig c = true then (if readE (runL l) = 0 then .ok (4, [], readN (runL l), (runL l).length) else .error (if readE (runL l) = 5 then 20 else readE (runL l)))
    else if c = 34 then (match qlen r with
      | none => .error 20
      | some k => match unq (l.take (1 + k)) with
        | none => .error 20
        | some t => .ok (5, t, 0, 1 + k))
    else match signsL.find? (fun x => x.isPrefixOf l) with
      | none => .error 20
      | some x => .ok (7, x, 0, x.length)

structure Tok where
  k : Int
  at' : Nat
  text : List UInt8
  n : Int

/-- a text's tokens, from a place on; or what is wrong, and where -/
def lexL : Nat → Nat → List UInt8 → Except (Int × Nat) (List Tok)
  | _, at0, [] => .ok [⟨0, at0, [], 0⟩]
  | 0, at0, _ :: _ => .error (20, at0)
  | f + 1, at0, c :: r =>
    if c = 32 ∨ c = 10 then lexL f (at0 + 1) r
    else match tok (c :: r) with
      | .error e => .error (e, at0)
      | .ok (k, t, n, m) => match lexL f (at0 + m) ((c :: r).drop m) with
        | .error e => .error e
        | .ok l => .ok (⟨k, at0, t, n⟩ :: l)
def lexOf (s : List UInt8) : Except (Int × Nat) (List Tok) := if 4096 < s.length then .error (4, 0) else lexL s.length 0 s

/-! ### first laws -/
theorem runL_pos {c : UInt8} {r : List UInt8} (h : bodyB c = true) : 1 ≤ (runL (c :: r)).length := by
  unfold runL; rw [List.takeWhile_cons_of_pos h]; simp
theorem runL_le (l : List UInt8) : (runL l).length ≤ l.length := (List.takeWhile_prefix _).length_le
theorem q2_le : ∀ (l : List UInt8) (o : Bool) (k : Nat), q2 o l = some k → 1 ≤ k ∧ k ≤ l.length
  | [], o, k, h => by simp [q2] at h
  | c :: r, o, k, h => by
    rw [q2] at h
    split at h
    · cases h; simp
    · cases e : q2 (c == 92 && !o) r with
      | none => rw [e] at h; cases h
      | some j =>
        rw [e] at h
        have := q2_le r _ j e
        simp only [Option.map_some, Option.some.injEq] at h
        simp only [List.length_cons]
        omega
theorem signs_facts : ∀ x ∈ signsL, 1 ≤ x.length ∧ x.length ≤ 2 ∧ 32 ∉ x ∧ 10 ∉ x := by decide
theorem tok_len {l : List UInt8} {k : Int} {t : List UInt8} {n : Int} {m : Nat} (h : tok l = .ok (k, t, n, m)) : 1 ≤ m ∧ m ≤ l.length := by
  unfold tok at h
  split at h
  · cases h
  · rename_i c r
    have hle := runL_le (c :: r)
    split at h
    · rename_i hs
      simp only [Except.ok.injEq, Prod.mk.injEq] at h
      have := runL_pos (r := r) (show bodyB c = true by unfold bodyB; rw [hs]; rfl)
      omega
    · split at h
      · rename_i hs
        simp only [Except.ok.injEq, Prod.mk.injEq] at h
        have := runL_pos (r := r) (show bodyB c = true by unfold bodyB; rw [hs]; simp)
        omega
      · split at h
        · simp only [Except.ok.injEq, Prod.mk.injEq] at h
          have := runL_le r
          simp only [List.length_cons]
          omega
        · split at h
          · rename_i hs
            split at h
            · simp only [Except.ok.injEq, Prod.mk.injEq] at h
              have := runL_pos (r := r) (show bodyB c = true by unfold bodyB; rw [hs]; simp)
              omega
            · cases h
          · split at h
            · split at h
              · cases h
              · rename_i k' hq
                split at h
                · cases h
                · simp only [Except.ok.injEq, Prod.mk.injEq] at h
                  have := q2_le r _ k' hq
                  simp only [List.length_cons]
                  omega
            · split at h
              · cases h
              · rename_i x hx
                simp only [Except.ok.injEq, Prod.mk.injEq] at h
                have hm := List.mem_of_find?_eq_some hx
                have hp := List.find?_some hx
                have h1 := signs_facts x hm
                have h2 := (List.isPrefixOf_iff_prefix.1 hp).length_le
                omega

/-- with fuel enough it is the same -/
theorem lexL_fuel : ∀ (n f g at0 : Nat) (l : List UInt8), l.length ≤ n → l.length ≤ f → l.length ≤ g → lexL f at0 l = lexL g at0 l := by
  intro n
  induction n with
  | zero =>
    intro f g at0 l hn _ _
    have : l = [] := List.eq_nil_of_length_eq_zero (by omega)
    subst this
    cases f <;> cases g <;> rfl
  | succ n ih =>
    intro f g at0 l hn hf hg
    match l, hn, hf, hg with
    | [], _, _, _ => cases f <;> cases g <;> rfl
    | c :: r, hn, hf, hg =>
      cases f with
      | zero => simp at hf
      | succ f => cases g with
        | zero => simp at hg
        | succ g =>
          simp only [List.length_cons] at hn hf hg
          rw [lexL, lexL]
          split
          · exact ih f g _ r (by omega) (by omega) (by omega)
          · cases e : tok (c :: r) with
            | error x => rfl
            | ok x =>
              obtain ⟨k, t, m, j⟩ := x
              have hl := tok_len e
              have := ih f g (at0 + j) ((c :: r).drop j) (by simp only [List.length_drop, List.length_cons]; omega) (by simp only [List.length_drop, List.length_cons]; omega) (by simp only [List.length_drop, List.length_cons]; omega)
              simp only [this]

/-! ### words -/
theorem words_facts : ∀ x ∈ wordsL, x ≠ [] ∧ 32 ∉ x := by decide
/-- a text without blanks is a word just if it stands in the great text between two blanks -/
theorem isWord_iff (s : List UInt8) (h0 : s ≠ []) (hb : (32 : UInt8) ∉ s) : isWordB s = true ↔ ([32] ++ s ++ [32]) <:+: wordsB := by
  constructor
  · intro h
    have hm : s ∈ wordsL := by simpa [isWordB] using h
    have hall : ∀ x ∈ wordsL, (List.range 140).any (fun i => ([32] ++ x ++ [32]).isPrefixOf (wordsB.drop i)) = true := by decide +kernel
    obtain ⟨i, _, hi⟩ := List.any_eq_true.1 (hall s hm)
    exact (List.isPrefixOf_iff_prefix.1 hi).isInfix.trans (List.drop_suffix i wordsB).isInfix
  · rintro ⟨p, q, hpq⟩
    have key : ∀ i : Fin wordsB.length, wordsB[i] = 32 → (wordsB.drop (i.val + 1)).takeWhile (· != 32) = [] ∨ isWordB ((wordsB.drop (i.val + 1)).takeWhile (· != 32)) = true := by decide +kernel
    have hl : p.length < wordsB.length := by rw [← hpq]; simp
    have h1 : wordsB[p.length] = 32 := by
      have : wordsB[p.length]? = some 32 := by rw [← hpq]; simp
      rw [List.getElem?_eq_getElem hl] at this
      simpa using this
    have h2 : wordsB.drop (p.length + 1) = s ++ (32 :: q) := by rw [← hpq]; simp
    have h3 : (wordsB.drop (p.length + 1)).takeWhile (· != 32) = s := by
      rw [h2, List.takeWhile_append_of_pos (by intro a ha; simp; intro e; exact hb (e ▸ ha))]
      simp
    rcases key ⟨p.length, hl⟩ h1 with h | h
    · rw [h3] at h; exact absurd h h0
    · rw [h3] at h; exact h
end Go.Proofs.YteffobcelgbiiaaDoor
