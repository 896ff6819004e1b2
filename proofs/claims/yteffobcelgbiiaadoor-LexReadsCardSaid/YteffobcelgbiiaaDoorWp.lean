/- Layer 1, plain: what the functions on numbers compute, as functions of numbers and lists of bytes; their laws. No program in sight. -/
import Derived.Test.YteffobcelgbiiaaDoorFr
import Derived.Lib.ItoaNum
import Derived.Lib.SlTrimSet
import Derived.Lib.ParseIntB
namespace Go.Proofs.YteffobcelgbiiaaDoor
open Go.RowKit

/-! ### 63 bits -/
/-- brought into 63 bits -/
def W63 (n : Int) : Int := (n + 4611686018427387904) % 9223372036854775808 - 4611686018427387904
theorem W63_ge (n : Int) : -4611686018427387904 ≤ W63 n := by unfold W63; omega
theorem W63_le (n : Int) : W63 n ≤ 4611686018427387903 := by unfold W63; omega
theorem W63_in {n : Int} (h0 : -4611686018427387904 ≤ n) (h1 : n ≤ 4611686018427387903) : W63 n = n := by unfold W63; omega
theorem W63_shift (n : Int) : wrap64 (n * 2) / 2 = W63 n := by unfold W63 wrap64; omega
theorem W63_idem (n : Int) : W63 (W63 n) = W63 n := W63_in (W63_ge n) (W63_le n)
theorem W63_wrap64 (n : Int) : W63 (wrap64 n) = W63 n := by unfold W63 wrap64; omega
theorem W63_off (n k : Int) : W63 (n + 9223372036854775808 * k) = W63 n := by unfold W63; omega
theorem W63_ex (n : Int) : ∃ k : Int, W63 n = n + 9223372036854775808 * k := ⟨-((n + 4611686018427387904) / 9223372036854775808), by unfold W63; omega⟩
theorem W63_add (a b : Int) : W63 (W63 a + W63 b) = W63 (a + b) := by
  obtain ⟨p, hp⟩ := W63_ex a
  obtain ⟨q, hq⟩ := W63_ex b
  rw [hp, hq, show a + 9223372036854775808 * p + (b + 9223372036854775808 * q) = (a + b) + 9223372036854775808 * (p + q) by omega, W63_off]
theorem W63_addL (a b : Int) : W63 (W63 a + b) = W63 (a + b) := by rw [← W63_add, W63_idem, W63_add]
theorem W63_addR (a b : Int) : W63 (a + W63 b) = W63 (a + b) := by rw [← W63_add, W63_idem, W63_add]
theorem W63_neg (a : Int) : W63 (-(W63 a)) = W63 (-a) := by
  obtain ⟨p, hp⟩ := W63_ex a
  rw [hp, show -(a + 9223372036854775808 * p) = -a + 9223372036854775808 * (-p) by omega, W63_off]
theorem W63_mul (a b : Int) : W63 (W63 a * W63 b) = W63 (a * b) := by
  obtain ⟨p, hp⟩ := W63_ex a
  obtain ⟨q, hq⟩ := W63_ex b
  rw [hp, hq, show (a + 9223372036854775808 * p) * (b + 9223372036854775808 * q) = a * b + 9223372036854775808 * (a * q + p * b + 9223372036854775808 * (p * q)) by grind, W63_off]
theorem W63_mulL (a b : Int) : W63 (W63 a * b) = W63 (a * b) := by rw [← W63_mul, W63_idem, W63_mul]
theorem W63_mulR (a b : Int) : W63 (a * W63 b) = W63 (a * b) := by rw [← W63_mul, W63_idem, W63_mul]

/-! ### The operations -/
def doN (op a b : Int) : Int :=
  if op = 1 then W63 (a + b) else if op = 2 then W63 (a - b) else if op = 3 then W63 (a * b)
  else if op = 4 then (if b = 0 then 0 else W63 (a.tdiv b)) else if op = 5 then (if b = 0 then 0 else a.tmod b)
  else if op = 6 then W63 (-a) else if op = 7 then (if a = b then 1 else 0) else if op = 8 then (if a < b then 1 else 0)
  else if op = 9 then (if a = 0 then 1 else 0) else 0
def doE (op b : Int) : Int :=
  if op = 4 ∨ op = 5 then (if b = 0 then 2 else 0) else if 1 ≤ op ∧ op ≤ 9 then 0 else 1

theorem tdiv_bd {a b : Int} (h0 : -4611686018427387904 ≤ a) (h1 : a ≤ 4611686018427387903) : -4611686018427387904 ≤ a.tdiv b ∧ a.tdiv b ≤ 4611686018427387904 := by
  have h := Int.natAbs_tdiv_le_natAbs a b
  omega
theorem tmod_bd {a b : Int} (h0 : -4611686018427387904 ≤ a) (h1 : a ≤ 4611686018427387903) : -4611686018427387904 ≤ a.tmod b ∧ a.tmod b ≤ 4611686018427387903 := by
  have h := Int.natAbs_tmod a b
  have h2 := Nat.mod_le a.natAbs b.natAbs
  have h3 : (0 ≤ a ∧ 0 ≤ a.tmod b) ∨ (a < 0 ∧ a.tmod b ≤ 0) := by
    rcases Int.lt_or_le a 0 with h | h
    · right
      have e : a.tmod b = -((-a).tmod b) := by rw [Int.neg_tmod, Int.neg_neg]
      have := Int.tmod_nonneg (a := -a) b (by omega)
      exact ⟨h, by omega⟩
    · left; exact ⟨h, Int.tmod_nonneg _ h⟩
  omega

/-! ### Numbers' texts -/
def digitsB : List UInt8 := [48, 49, 50, 51, 52, 53, 54, 55, 56, 57]
def isDig (c : UInt8) : Bool := 48 ≤ c.toNat && c.toNat ≤ 57
def valD (acc : Nat) : List UInt8 → Nat
  | [] => acc
  | c :: r => valD (acc * 10 + (c.toNat - 48)) r
/-- is it a numeral without a leading 0? -/
def numeral (l : List UInt8) : Bool := !(l.isEmpty || (l.head? == some 48 && decide (1 < l.length)) || !l.all isDig)
def readN (l : List UInt8) : Int := if numeral l = true ∧ valD 0 l ≤ 4611686018427387903 then (valD 0 l : Int) else 0
def readE (l : List UInt8) : Int := if numeral l = true then (if valD 0 l ≤ 4611686018427387903 then 0 else 2) else 5

theorem valD_ge : ∀ (l : List UInt8) (acc : Nat), acc ≤ valD acc l
  | [], acc => Nat.le_refl _
  | c :: r, acc => Nat.le_trans (by omega) (valD_ge r (acc * 10 + (c.toNat - 48)))

theorem isDig_iff (c : UInt8) : isDig c = true ↔ 48 ≤ c.toNat ∧ c.toNat ≤ 57 := by simp [isDig]

theorem pu_nil (M acc : Nat) : Lib.parseUintM M acc [] = .ok acc := rfl
theorem pu_cons (M acc : Nat) (c : UInt8) (r : List UInt8) (h : 48 ≤ c.toNat ∧ c.toNat ≤ 57) : Lib.parseUintM M acc (c :: r) = if 1844674407370955162 ≤ acc then .range else if M < acc * 10 + (c.toNat - 48) then .range else Lib.parseUintM M (acc * 10 + (c.toNat - 48)) r := by
  have e : Lib.parseUintM M acc (c :: r) = ite (48 ≤ c.toNat ∧ c.toNat ≤ 57) (if 1844674407370955162 ≤ acc then .range else if M < acc * 10 + (c.toNat - 48) then .range else Lib.parseUintM M (acc * 10 + (c.toNat - 48)) r) _ := rfl
  rw [e, if_pos h]

theorem parseUintM_dig (M : Nat) (hM : M ≤ 18446744073709551615) : ∀ (l : List UInt8) (acc : Nat), acc ≤ M → l.all isDig = true →
    Lib.parseUintM M acc l = if valD acc l ≤ M then .ok (valD acc l) else .range
  | [], acc, ha, _ => by rw [pu_nil, show valD acc [] = acc from rfl, if_pos ha]
  | c :: r, acc, ha, h => by
    simp only [List.all_cons, Bool.and_eq_true] at h
    have hc := (isDig_iff c).1 h.1
    have hge := valD_ge r (acc * 10 + (c.toNat - 48))
    have ev : valD acc (c :: r) = valD (acc * 10 + (c.toNat - 48)) r := rfl
    rw [ev]
    have e0 : Lib.parseUintM M acc (c :: r) = if 1844674407370955162 ≤ acc then .range else if M < acc * 10 + (c.toNat - 48) then .range else Lib.parseUintM M (acc * 10 + (c.toNat - 48)) r := by
      rw [pu_cons M acc c r hc]
    rw [e0]
    generalize hq : acc * 10 + (c.toNat - 48) = q at *
    by_cases h1 : 1844674407370955162 ≤ acc
    · rw [if_pos h1, if_neg (by omega)]
    · rw [if_neg h1]
      by_cases h2 : M < q
      · rw [if_pos h2, if_neg (by omega)]
      · rw [if_neg h2]
        exact parseUintM_dig M hM r q (by omega) h.2

theorem dropWhile_nil_iff {α : Type} (p : α → Bool) (l : List α) : l.dropWhile p = [] ↔ ∀ x ∈ l, p x = true := by
  induction l with
  | nil => simp
  | cons x r ih =>
    by_cases hx : p x = true
    · rw [List.dropWhile_cons_of_pos hx, ih]; simp [hx]
    · rw [List.dropWhile_cons_of_neg hx]; simp [hx]

theorem contains_digits (c : UInt8) : digitsB.contains c = isDig c := by
  revert c
  have h : ∀ c : Fin 256, digitsB.contains (UInt8.ofNat c.val) = isDig (UInt8.ofNat c.val) := by decide +kernel
  intro c
  have := h ⟨c.toNat, c.toNat_lt⟩
  simpa using this

theorem trimS_digits (l : List UInt8) : Lib.trimS l digitsB = [] ↔ l.all isDig = true := by
  have hc : (fun c => digitsB.contains c) = isDig := funext contains_digits
  unfold Lib.trimS Lib.trimLeftS Lib.trimRightS
  rw [hc]
  constructor
  · intro h
    rw [List.all_eq_true]
    intro x hx
    have h1 : ∀ y ∈ (l.reverse.dropWhile isDig).reverse, isDig y = true := by
      intro y hy
      have := (dropWhile_nil_iff isDig _).1 h
      exact this y hy
    have h2 : ∀ y ∈ l.reverse.dropWhile isDig, isDig y = true := fun y hy => h1 y (by simpa using hy)
    have h3 : l.reverse.dropWhile isDig = [] := by
      cases hd : l.reverse.dropWhile isDig with
      | nil => rfl
      | cons y r =>
        have hn := List.head?_dropWhile_not isDig l.reverse
        rw [hd] at hn
        simp at hn
        have := h2 y (by rw [hd]; simp)
        rw [this] at hn
        cases hn
    have h4 := (dropWhile_nil_iff isDig _).1 h3
    exact h4 x (by simpa using hx)
  · intro h
    rw [List.all_eq_true] at h
    have h3 : l.reverse.dropWhile isDig = [] := (dropWhile_nil_iff isDig _).2 (fun y hy => h y (by simpa using hy))
    rw [h3]
    rfl

/-! ### Quoted texts -/
def hexB : List UInt8 := [48, 49, 50, 51, 52, 53, 54, 55, 56, 57, 97, 98, 99, 100, 101, 102]
def hexD (n : Nat) : UInt8 := hexB.getD n 0
/-- a byte, quoted -/
def quo (c : UInt8) : List UInt8 :=
  if c = 34 then [92, 34] else if c = 92 then [92, 92] else if c = 10 then [92, 110]
  else if 32 ≤ c.toNat ∧ c.toNat ≤ 126 then [c] else [92, 120, hexD (c.toNat / 16), hexD (c.toNat % 16)]
def quotes (l : List UInt8) : List UInt8 := l.flatMap quo
def quoteL (l : List UInt8) : List UInt8 := 34 :: (quotes l ++ [34])

theorem quo_len (c : UInt8) : 1 ≤ (quo c).length ∧ (quo c).length ≤ 4 := by
  unfold quo
  by_cases h1 : c = 34
  · rw [if_pos h1]; decide
  · rw [if_neg h1]
    by_cases h2 : c = 92
    · rw [if_pos h2]; decide
    · rw [if_neg h2]
      by_cases h3 : c = 10
      · rw [if_pos h3]; decide
      · rw [if_neg h3]
        by_cases h4 : 32 ≤ c.toNat ∧ c.toNat ≤ 126
        · rw [if_pos h4]; simp
        · rw [if_neg h4]; simp
theorem quo_ne (c : UInt8) : quo c ≠ [] := fun h => by have := (quo_len c).1; rw [h] at this; simp at this
theorem quotes_len (l : List UInt8) : (quotes l).length ≤ 4 * l.length := by
  induction l with
  | nil => simp [quotes]
  | cons c r ih =>
    have := (quo_len c).2
    simp only [quotes, List.flatMap_cons, List.length_append, List.length_cons] at ih ⊢
    omega

/-- what two hexadecimal digits say: as the program reckons it, '-1' for what is none -/
def hexV (c : UInt8) : Int := if hexB.contains c then (hexB.idxOf c : Int) else -1
def hexP (a b : UInt8) : UInt8 := UInt8.ofNat ((hexV a * 16 % 256).toNat ||| (hexV b % 16).toNat)

/-- unquoting, loosely: of what stands behind the first quotation mark, the last byte left out -/
def loose : Nat → List UInt8 → List UInt8
  | 0, _ => []
  | _ + 1, [] => []
  | _ + 1, [_] => []
  | f + 1, c :: d :: r =>
    if c ≠ 92 then c :: loose f (d :: r)
    else if d = 110 then 10 :: loose f r
    else if d = 120 ∧ 2 ≤ r.length then hexP (r.getD 0 0) (r.getD 1 0) :: loose f (r.drop 2)
    else d :: loose f r

theorem loose_quo (f : Nat) (c : UInt8) (x : List UInt8) (hx : x ≠ []) : loose (f + 1) (quo c ++ x) = c :: loose f x := by
  unfold quo
  split
  · rename_i h; subst h; cases x with
    | nil => exact absurd rfl hx
    | cons y r => simp [loose]
  · split
    · rename_i h; subst h; cases x with
      | nil => exact absurd rfl hx
      | cons y r => simp [loose]
    · split
      · rename_i h; subst h; cases x with
        | nil => exact absurd rfl hx
        | cons y r => simp [loose]
      · split
        · rename_i h0 h1 h2 h3
          cases x with
          | nil => exact absurd rfl hx
          | cons y r => simp [loose, h1]
        · have hp : ∀ c : Fin 256, hexP (hexD (c.val / 16)) (hexD (c.val % 16)) = UInt8.ofNat c.val := by decide +kernel
          have := hp ⟨c.toNat, c.toNat_lt⟩
          simp only [UInt8.ofNat_toNat] at this
          cases x with
          | nil => exact absurd rfl hx
          | cons y r => simp [loose, this]

/-- no byte's form begins another one's -/
theorem quo_split {c d : UInt8} {x y : List UInt8} (h : quo c ++ x = quo d ++ y) : c = d ∧ x = y := by
  have h1 := loose_quo 0 c (x ++ [0]) (by simp)
  have h2 := loose_quo 0 d (y ++ [0]) (by simp)
  rw [← List.append_assoc, h, List.append_assoc, h2] at h1
  have hcd : c = d := by simp only [List.cons.injEq] at h1; exact h1.1.symm
  subst hcd
  exact ⟨rfl, List.append_cancel_left h⟩

theorem quo_prefix {c d : UInt8} (h : quo c <+: quo d) : c = d := by
  obtain ⟨t, ht⟩ := h
  exact (quo_split (x := t) (y := []) (by simpa using ht)).1

/-- no byte's form begins with a quotation mark -/
theorem quo_head (c : UInt8) : (quo c).head? ≠ some 34 := by
  revert c
  have h : ∀ c : Fin 256, (quo (UInt8.ofNat c.val)).head? ≠ some 34 := by decide +kernel
  intro c
  have := h ⟨c.toNat, c.toNat_lt⟩
  simpa using this

theorem quotes_inj : ∀ (l m : List UInt8), quotes l = quotes m → l = m
  | [], [], _ => rfl
  | [], c :: r, h => by
    have := quo_ne c
    simp [quotes] at h
    exact absurd h.1 this
  | c :: r, [], h => by
    have := quo_ne c
    simp [quotes] at h
    exact absurd h.1 this
  | c :: l, d :: m, h => by
    simp only [quotes, List.flatMap_cons] at h
    obtain ⟨rfl, h2⟩ := quo_split h
    rw [quotes_inj l m h2]

theorem quoteL_inj {l m : List UInt8} (h : quoteL l = quoteL m) : l = m := by
  unfold quoteL at h
  simp only [List.cons.injEq, true_and] at h
  exact quotes_inj l m (List.append_cancel_right h)

theorem loose_quotes : ∀ (l : List UInt8) (f : Nat), l.length < f → loose f (quotes l ++ [34]) = l
  | [], f + 1, _ => by simp [quotes, loose]
  | c :: l, f + 1, h => by
    simp only [quotes, List.flatMap_cons, List.append_assoc]
    rw [loose_quo f c _ (by simp)]
    have := loose_quotes l f (by simpa using h)
    simp only [quotes] at this
    rw [this]
  | _, 0, h => by omega

/-- unquoting: the text of which s is the quoted form -/
def unq (s : List UInt8) : Option (List UInt8) :=
  if quoteL (loose s.length (s.drop 1)) = s then some (loose s.length (s.drop 1)) else none
def unqT (s : List UInt8) : List UInt8 := (unq s).getD []
def unqE (s : List UInt8) : Int := if (unq s).isSome then 0 else 5

theorem length_quotes (l : List UInt8) : l.length ≤ (quotes l).length := by
  induction l with
  | nil => simp
  | cons c r ih =>
    have := (quo_len c).1
    simp only [quotes, List.flatMap_cons, List.length_append, List.length_cons] at ih ⊢
    omega

theorem unq_quote (l : List UInt8) : unq (quoteL l) = some l := by
  have h : loose (quoteL l).length ((quoteL l).drop 1) = l := by
    have := length_quotes l
    have e : (quoteL l).drop 1 = quotes l ++ [34] := rfl
    rw [e]
    exact loose_quotes l _ (by simp [quoteL]; omega)
  unfold unq
  rw [h, if_pos rfl]

theorem unq_some {s l : List UInt8} (h : unq s = some l) : quoteL l = s := by
  unfold unq at h
  split at h
  · rename_i hq
    cases h
    exact hq
  · cases h

theorem unq_iff (s l : List UInt8) : unq s = some l ↔ quoteL l = s :=
  ⟨unq_some, fun h => by rw [← h, unq_quote]⟩
attribute [irreducible] W63 doN doE
end Go.Proofs.YteffobcelgbiiaaDoor
