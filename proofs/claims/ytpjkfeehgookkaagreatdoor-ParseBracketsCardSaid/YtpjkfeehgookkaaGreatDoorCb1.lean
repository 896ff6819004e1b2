/- A part of the proof: Fr, Wp, Lp, Lq, Lr, Pm, Ap, Pe, W4, W6, W7, W8, W9, W10, W11, W12, L1, L2, Lg, Ls, Lt. -/
import Derived.WalkKit
import Derived.WalkSpells
import Derived.WalkLawsBesides
import Derived.Sort.Grow
import Derived.Lib.Hide
import Derived.Lib.ItoaNum
import Derived.Lib.SlTrimSet
import Derived.Lib.ParseIntB
import Derived.Lib.AppendStr
import Derived.Lib.Builder
import Derived.Lib.Bytes
import Derived.Test.YtpjkfeehgookkaaGreatDoorRows
import Derived.Test.YtpjkfeehgookkaaGreatDoorShelf
import Derived.Lib.UnsafeStr
import Derived.Laws.Externs
import Derived.Laws.BytesString
import Derived.Laws.BytesArg
import Derived.Lib.ItoaLen
import Derived.Shelf.Strings.SlTrimAscii
import Derived.Lib.ConvBytes
import Derived.Deep.RegionWith
import Derived.Lib.OthersKept
import Derived.Lib.IndexMore
import Derived.Lib.IndexBytes
import Derived.RangeFuncNested
import Derived.RangeFuncBound
import Derived.RangeFuncCalls
import Derived.RangeFuncLeaves
import Derived.Shelf.Abstract
import Derived.Shelf.RegionOpen
import Derived.OwnWalkIn
import Derived.TacticsInMore
import Derived.LoopNIn
import Derived.LoopIn
namespace Go.Proofs.YtpjkfeehgookkaaGreatDoor
open Go.RowKit
structure Fr (L : List Nat) (w w' : World) : Prop where
 os : w'.os = w.os
 tape : w'.tape = w.tape
 output : w'.output = w.output
 size : w.heap.size ≤ w'.heap.size
 block : ∀ k, k < w.heap.size → k ∉ L → w'.heap[k]? = w.heap[k]?
theorem Fr.refl (L : List Nat) (w : World) : Fr L w w := ⟨rfl, rfl, rfl, Nat.le_refl _, fun _ _ _ => rfl⟩
theorem Fr.step {L L' : List Nat} {a b c : World} (h : Fr L a b) (k : Fr L' b c) (hL : ∀ x ∈ L', x ∈ L ∨ a.heap.size ≤ x) : Fr L a c :=
 ⟨k.os.trans h.os, k.tape.trans h.tape, k.output.trans h.output, Nat.le_trans h.size k.size, fun i hi hn =>
  (k.block i (Nat.lt_of_lt_of_le hi h.size) (fun hx => (hL i hx).elim hn (fun h' => by omega))).trans (h.block i hi hn)⟩
theorem Fr.trans {L : List Nat} {a b c : World} (h : Fr L a b) (k : Fr L b c) : Fr L a c := h.step k fun _ hx => .inl hx
theorem Fr.trans0 {L : List Nat} {a b c : World} (h : Fr L a b) (k : Fr [] b c) : Fr L a c := h.step k fun _ hx => by cases hx
theorem Fr.mono {L L' : List Nat} {a b : World} (h : Fr L a b) (hL : ∀ x ∈ L, x ∈ L' ∨ a.heap.size ≤ x) : Fr L' a b :=
 ⟨h.os, h.tape, h.output, h.size, fun i hi hn => h.block i hi (fun hx => (hL i hx).elim hn (fun h' => by omega))⟩
theorem Fr.drew {L : List Nat} {a w : World} (h : Fr L a w) : Fr L a w.drew := ⟨h.os, h.tape, h.output, h.size, h.block⟩
theorem Fr.drewN {L : List Nat} {a w : World} (h : Fr L a w) (n : Nat) : Fr L a (w.drewN n) := h.trans ⟨rfl, rfl, rfl, Nat.le_refl _, fun _ _ _ => rfl⟩
theorem Fr.alloc {L : List Nat} {a w : World} (h : Fr L a w) (o : Obj) : Fr L a (w.alloc o) :=
 h.trans ⟨rfl, rfl, rfl, by simp, fun k hk _ => Below.heap_alloc _ _ _ hk⟩
theorem Fr.setCell {L : List Nat} {a w : World} (h : Fr L a w) {p : Addr} (hp : p.block ∈ L ∨ a.heap.size ≤ p.block) (u : Value) : Fr L a (w.setCell p u) :=
 h.step (L' := [p.block]) ⟨rfl, rfl, rfl, by simp [World.setCell], fun k _ hk => Below.heap_setCell _ _ _ _ (fun e => hk (by simp [e]))⟩ (fun x hx => by simp at hx; subst hx; exact hp)
theorem Fr.grown {L : List Nat} {a w w' : World} {row : Option Nat} (h : Fr L a w) (hg : w.grownBy w' row) (hr : ∀ k, row = some k → k ∈ L ∨ a.heap.size ≤ k) : Fr L a w' :=
 h.step (L' := row.toList) ⟨hg.os, hg.tape, hg.output, hg.size, fun k hk hn => hg.block k hk (fun e => hn (by rw [← e]; simp))⟩
  (fun x hx => hr x (by cases row with | none => simp at hx | some y => simp at hx; rw [hx]))
theorem Fr.of_below {w w' : World} (h : Below w.heap.size w w') : Fr [] w w' := ⟨h.os, h.tape, h.output, h.size, fun k hk _ => h.block k hk⟩
theorem Fr.below {L : List Nat} {B : Nat} {w w' : World} (h : Fr L w w') (hB : B ≤ w.heap.size) (hL : ∀ x ∈ L, B ≤ x) : Below B w w' :=
 ⟨h.os, h.tape, h.output, h.size, fun k hk => h.block k (by omega) (fun hx => by have := hL k hx; omega)⟩
theorem Fr.below0 {w w' : World} (h : Fr [] w w') : Below w.heap.size w w' := h.below (Nat.le_refl _) (fun _ hx => by cases hx)
theorem Fr.cell {L : List Nat} {w w' : World} (h : Fr L w w') {p : Addr} (hp : p.block < w.heap.size) (hn : p.block ∉ L) : w'.cell? p = w.cell? p := World.cell?_of_block (w := w) (h.block p.block hp hn)
theorem Fr.frozen {L : List Nat} {w w' : World} (h : Fr L w w') {p : Addr} (hp : p.block < w.heap.size) (hn : p.block ∉ L) : w'.frozen? p = w.frozen? p := World.frozen?_of_block (w := w) (h.block p.block hp hn)
theorem Fr.keep {L : List Nat} {w w' : World} (h : Fr L w w') {k : Nat} {o : Obj} (hk : w.heap[k]? = some o) (hn : k ∉ L) : w'.heap[k]? = some o :=
 (h.block k (Array.getElem?_eq_some_iff.1 hk).1 hn).trans hk
theorem lt_of_heap {w : World} {k : Nat} {o : Obj} (hk : w.heap[k]? = some o) : k < w.heap.size := (Array.getElem?_eq_some_iff.1 hk).1
theorem Fr.grow (L : List Nat) (w : World) (os : Array Obj) : Fr L w (Sort.grow w os) :=
 ⟨rfl, rfl, rfl, by simp [Sort.grow], fun k hk _ => by simp [Sort.grow, Array.getElem?_append, hk]⟩
theorem Fr.of_grow {w w' : World} (h : ∃ k os, w' = Sort.grow (w.drewN k) os) : Fr [] w w' := by
 obtain ⟨k, os, rfl⟩ := h
 exact ((Fr.refl [] w).drewN k).trans (Fr.grow [] _ os)
theorem heap_new (w : World) (o : Obj) : (w.alloc o).heap[w.heap.size]? = some o := heap_alloc_new w o
theorem heap_old {w : World} {k : Nat} {o : Obj} (h : w.heap[k]? = some o) (o' : Obj) : (w.alloc o').heap[k]? = some o := (heap_alloc_old w o' (lt_of_heap h)).trans h
theorem cell_of {w : World} {b : Nat} {cs : Array Value} {T : TypeId} {fr : Nat × Nat} (hb : w.heap[b]? = some (.cells cs T fr)) (j : Nat) : w.cell? ⟨b, j, none⟩ = cs[j]? := by simp [World.cell?, hb]
theorem frozen_of {w : World} {b : Nat} {cs : Array Value} {T : TypeId} (hb : w.heap[b]? = some (.cells cs T (0, 0))) (j : Nat) : w.frozen? ⟨b, j, none⟩ = false := by simp [World.frozen?, hb]
theorem ret_int {k : IntKind} {a b : Int} (h : a = b) : Ending.returned (.int k a) = .returned (.int k b) := by rw [h]
theorem ret_bool {a b : Bool} (h : a = b) : Ending.returned (.bool a) = .returned (.bool b) := by rw [h]
theorem ret_ints {j k : IntKind} {a b c d : Int} (h : a = b) (h' : c = d) : Ending.returned (.tuple #[.int j a, .int k c]) = .returned (.tuple #[.int j b, .int k d]) := by rw [h, h']
theorem ret_str {l m : List UInt8} (h : l = m) : Ending.returned (.string ⟨l.toArray⟩) = .returned (.string ⟨m.toArray⟩) := by rw [h]
theorem mk_list (s : ByteArray) : (⟨s.data.toList.toArray⟩ : ByteArray) = s := by cases s; simp
theorem size_list (s : ByteArray) : s.data.toList.length = s.size := rfl
end Go.Proofs.YtpjkfeehgookkaaGreatDoor
namespace Go.Proofs.YtpjkfeehgookkaaGreatDoor
open Go.RowKit
def digitsB : List UInt8 := [48, 49, 50, 51, 52, 53, 54, 55, 56, 57]
def isDig (c : UInt8) : Bool := 48 ≤ c.toNat && c.toNat ≤ 57
def valD (acc : Nat) : List UInt8 → Nat
 | [] => acc
 | c :: r => valD (acc * 10 + (c.toNat - 48)) r
def numeral (l : List UInt8) : Bool := !(l.isEmpty || (l.head? == some 48 && decide (1 < l.length)) || !l.all isDig)
def readN (l : List UInt8) : Int := if numeral l = true ∧ valD 0 l ≤ 4611686018427387903 then (valD 0 l : Int) else 0
def readE (l : List UInt8) : Int := if numeral l = true then (if valD 0 l ≤ 4611686018427387903 then 0 else 2) else 5
theorem valD_ge : ∀ (l : List UInt8) (acc : Nat), acc ≤ valD acc l
 | [], acc => Nat.le_refl _
 | c :: r, acc => Nat.le_trans (by omega) (valD_ge r (acc * 10 + (c.toNat - 48)))
theorem isDig_iff (c : UInt8) : isDig c = true ↔ 48 ≤ c.toNat ∧ c.toNat ≤ 57 := by simp [isDig]
theorem pu_nil (M acc : Nat) : Lib.parseUintM M acc [] = .ok acc := rfl
theorem pu_cons (M acc : Nat) (c : UInt8) (r : List UInt8) (h : 48 ≤ c.toNat ∧ c.toNat ≤ 57) : Lib.parseUintM M acc (c :: r) = if 1844674407370955162 ≤ acc then .range else if M < acc * 10 + (c.toNat - 48) then .range else Lib.parseUintM M (acc * 10 + (c.toNat - 48)) r := by
 have e : Lib.parseUintM M acc (c :: r) = ite (48 ≤ c.toNat ∧ c.toNat ≤ 57) (if 1844674407370955162 ≤ acc then .range else if M < acc * 10 + (c.toNat - 48) then .range else Lib.parseUintM M (acc * 10 + (c.toNat - 48)) r) _ := rfl
 rw [e, if_pos h]
theorem parseUintM_dig (M : Nat) (hM : M ≤ 18446744073709551615) : ∀ (l : List UInt8) (acc : Nat), acc ≤ M → l.all isDig = true →
  Lib.parseUintM M acc l = if valD acc l ≤ M then .ok (valD acc l) else .range
 | [], acc, ha, _ => by rw [pu_nil, show valD acc [] = acc from rfl, if_pos ha]
 | c :: r, acc, ha, h => by
  simp only [List.all_cons, Bool.and_eq_true] at h
  have hc := (isDig_iff c).1 h.1
  have hge := valD_ge r (acc * 10 + (c.toNat - 48))
  have ev : valD acc (c :: r) = valD (acc * 10 + (c.toNat - 48)) r := rfl
  rw [ev]
  have e0 : Lib.parseUintM M acc (c :: r) = if 1844674407370955162 ≤ acc then .range else if M < acc * 10 + (c.toNat - 48) then .range else Lib.parseUintM M (acc * 10 + (c.toNat - 48)) r := by
   rw [pu_cons M acc c r hc]
  rw [e0]
  generalize hq : acc * 10 + (c.toNat - 48) = q at *
  by_cases h1 : 1844674407370955162 ≤ acc
  ·rw [if_pos h1, if_neg (by omega)]
  ·rw [if_neg h1]
   by_cases h2 : M < q
   ·rw [if_pos h2, if_neg (by omega)]
   ·rw [if_neg h2]
    exact parseUintM_dig M hM r q (by omega) h.2
theorem dropWhile_nil_iff {α : Type} (p : α → Bool) (l : List α) : l.dropWhile p = [] ↔ ∀ x ∈ l, p x = true := by
 induction l with
 | nil => simp
 | cons x r ih =>
  by_cases hx : p x = true
  ·rw [List.dropWhile_cons_of_pos hx, ih]; simp [hx]
  ·rw [List.dropWhile_cons_of_neg hx]; simp [hx]
theorem contains_digits (c : UInt8) : digitsB.contains c = isDig c := by
 revert c
 have h : ∀ c : Fin 256, digitsB.contains (UInt8.ofNat c.val) = isDig (UInt8.ofNat c.val) := by decide +kernel
 intro c
 have := h ⟨c.toNat, c.toNat_lt⟩
 simpa using this
theorem trimS_digits (l : List UInt8) : Lib.trimS l digitsB = [] ↔ l.all isDig = true := by
 have hc : (fun c => digitsB.contains c) = isDig := funext contains_digits
 unfold Lib.trimS Lib.trimLeftS Lib.trimRightS
 rw [hc]
 constructor
 ·intro h
  rw [List.all_eq_true]
  intro x hx
  have h1 : ∀ y ∈ (l.reverse.dropWhile isDig).reverse, isDig y = true := by
   intro y hy
   have := (dropWhile_nil_iff isDig _).1 h
   exact this y hy
  have h2 : ∀ y ∈ l.reverse.dropWhile isDig, isDig y = true := fun y hy => h1 y (by simpa using hy)
  have h3 : l.reverse.dropWhile isDig = [] := by
   cases hd : l.reverse.dropWhile isDig with
   | nil => rfl
   | cons y r =>
    have hn := List.head?_dropWhile_not isDig l.reverse
    rw [hd] at hn
    simp at hn
    have := h2 y (by rw [hd]; simp)
    rw [this] at hn
    cases hn
  have h4 := (dropWhile_nil_iff isDig _).1 h3
  exact h4 x (by simpa using hx)
 ·intro h
  rw [List.all_eq_true] at h
  have h3 : l.reverse.dropWhile isDig = [] := (dropWhile_nil_iff isDig _).2 (fun y hy => h y (by simpa using hy))
  rw [h3]
  rfl
def hexB : List UInt8 := [48, 49, 50, 51, 52, 53, 54, 55, 56, 57, 97, 98, 99, 100, 101, 102]
def hexD (n : Nat) : UInt8 := hexB.getD n 0
def quo (c : UInt8) : List UInt8 :=
 if c = 34 then [92, 34] else if c = 92 then [92, 92] else if c = 10 then [92, 110]
 else if 32 ≤ c.toNat ∧ c.toNat ≤ 126 then [c] else [92, 120, hexD (c.toNat / 16), hexD (c.toNat % 16)]
def quotes (l : List UInt8) : List UInt8 := l.flatMap quo
def quoteL (l : List UInt8) : List UInt8 := 34 :: (quotes l ++ [34])
theorem quo_len (c : UInt8) : 1 ≤ (quo c).length ∧ (quo c).length ≤ 4 := by
 unfold quo
 by_cases h1 : c = 34
 ·rw [if_pos h1]; decide
 ·rw [if_neg h1]
  by_cases h2 : c = 92
  ·rw [if_pos h2]; decide
  ·rw [if_neg h2]
   by_cases h3 : c = 10
   ·rw [if_pos h3]; decide
   ·rw [if_neg h3]
    by_cases h4 : 32 ≤ c.toNat ∧ c.toNat ≤ 126
    ·rw [if_pos h4]; simp
    ·rw [if_neg h4]; simp
theorem quo_ne (c : UInt8) : quo c ≠ [] := fun h => by have := (quo_len c).1; rw [h] at this; simp at this
theorem quotes_len (l : List UInt8) : (quotes l).length ≤ 4 * l.length := by
 induction l with
 | nil => simp [quotes]
 | cons c r ih =>
  have := (quo_len c).2
  simp only [quotes, List.flatMap_cons, List.length_append, List.length_cons] at ih ⊢
  omega
def hexV (c : UInt8) : Int := if hexB.contains c then (hexB.idxOf c : Int) else -1
def hexP (a b : UInt8) : UInt8 := UInt8.ofNat ((hexV a * 16 % 256).toNat ||| (hexV b % 16).toNat)
def loose : Nat → List UInt8 → List UInt8
 | 0, _ => []
 | _ + 1, [] => []
 | _ + 1, [_] => []
 | f + 1, c :: d :: r =>
  if c ≠ 92 then c :: loose f (d :: r)
  else if d = 110 then 10 :: loose f r
  else if d = 120 ∧ 2 ≤ r.length then hexP (r.getD 0 0) (r.getD 1 0) :: loose f (r.drop 2)
  else d :: loose f r
theorem loose_quo (f : Nat) (c : UInt8) (x : List UInt8) (hx : x ≠ []) : loose (f + 1) (quo c ++ x) = c :: loose f x := by
 unfold quo
 split
 ·rename_i h; subst h; cases x with
  | nil => exact absurd rfl hx
  | cons y r => simp [loose]
 ·split
  ·rename_i h; subst h; cases x with
   | nil => exact absurd rfl hx
   | cons y r => simp [loose]
  ·split
   ·rename_i h; subst h; cases x with
    | nil => exact absurd rfl hx
    | cons y r => simp [loose]
   ·split
    ·rename_i h0 h1 h2 h3
     cases x with
     | nil => exact absurd rfl hx
     | cons y r => simp [loose, h1]
    ·have hp : ∀ c : Fin 256, hexP (hexD (c.val / 16)) (hexD (c.val % 16)) = UInt8.ofNat c.val := by decide +kernel
     have := hp ⟨c.toNat, c.toNat_lt⟩
     simp only [UInt8.ofNat_toNat] at this
     cases x with
     | nil => exact absurd rfl hx
     | cons y r => simp [loose, this]
theorem quo_split {c d : UInt8} {x y : List UInt8} (h : quo c ++ x = quo d ++ y) : c = d ∧ x = y := by
 have h1 := loose_quo 0 c (x ++ [0]) (by simp)
 have h2 := loose_quo 0 d (y ++ [0]) (by simp)
 rw [← List.append_assoc, h, List.append_assoc, h2] at h1
 have hcd : c = d := by simp only [List.cons.injEq] at h1; exact h1.1.symm
 subst hcd
 exact ⟨rfl, List.append_cancel_left h⟩
theorem loose_quotes : ∀ (l : List UInt8) (f : Nat), l.length < f → loose f (quotes l ++ [34]) = l
 | [], f + 1, _ => by simp [quotes, loose]
 | c :: l, f + 1, h => by
  simp only [quotes, List.flatMap_cons, List.append_assoc]
  rw [loose_quo f c _ (by simp)]
  have := loose_quotes l f (by simpa using h)
  simp only [quotes] at this
  rw [this]
 | _, 0, h => by omega
def unq (s : List UInt8) : Option (List UInt8) :=
 if quoteL (loose s.length (s.drop 1)) = s then some (loose s.length (s.drop 1)) else none
def unqT (s : List UInt8) : List UInt8 := (unq s).getD []
def unqE (s : List UInt8) : Int := if (unq s).isSome then 0 else 5
theorem length_quotes (l : List UInt8) : l.length ≤ (quotes l).length := by
 induction l with
 | nil => simp
 | cons c r ih =>
  have := (quo_len c).1
  simp only [quotes, List.flatMap_cons, List.length_append, List.length_cons] at ih ⊢
  omega
theorem unq_quote (l : List UInt8) : unq (quoteL l) = some l := by
 have h : loose (quoteL l).length ((quoteL l).drop 1) = l := by
  have := length_quotes l
  have e : (quoteL l).drop 1 = quotes l ++ [34] := rfl
  rw [e]
  exact loose_quotes l _ (by simp [quoteL]; omega)
 unfold unq
 rw [h, if_pos rfl]
theorem unq_some {s l : List UInt8} (h : unq s = some l) : quoteL l = s := by
 unfold unq at h
 split at h
 ·rename_i hq
  cases h
  exact hq
 ·cases h
theorem unq_iff (s l : List UInt8) : unq s = some l ↔ quoteL l = s :=
 ⟨unq_some, fun h => by rw [← h, unq_quote]⟩

end Go.Proofs.YtpjkfeehgookkaaGreatDoor
namespace Go.Proofs.YtpjkfeehgookkaaGreatDoor
open Go.RowKit
def smallB (c : UInt8) : Bool := (decide (97 ≤ c.toNat) && decide (c.toNat ≤ 122)) || c == 95
def greatB (c : UInt8) : Bool := decide (65 ≤ c.toNat) && decide (c.toNat ≤ 90)
def bodyB (c : UInt8) : Bool := smallB c || greatB c || isDig c
def wordsL : List (List UInt8) := [[108, 101, 116], [114, 101, 99], [105, 110], [102, 117, 110], [109, 97, 116, 99, 104], [119, 105, 116, 104], [101, 110, 100], [105, 102], [116, 104, 101, 110], [101, 108, 115, 101], [116, 114, 117, 101], [102, 97, 108, 115, 101], [114, 97, 105, 115, 101], [116, 114, 121], [110, 111, 116], [114, 101, 102], [97, 114, 114, 97, 121], [103, 101, 116], [115, 101, 116], [108, 101, 110], [115, 105, 122, 101], [98, 121, 116, 101], [99, 97, 116], [103, 101, 116, 99], [112, 117, 116, 99]]
def signsL : List (List UInt8) := [[45, 62], [58, 61], [38, 38], [124, 124], [40], [41], [123], [125], [61], [59], [44], [46], [124], [43], [45], [42], [47], [37], [60], [33]]
def wordsB : List UInt8 := [32, 108, 101, 116, 32, 114, 101, 99, 32, 105, 110, 32, 102, 117, 110, 32, 109, 97, 116, 99, 104, 32, 119, 105, 116, 104, 32, 101, 110, 100, 32, 105, 102, 32, 116, 104, 101, 110, 32, 101, 108, 115, 101, 32, 116, 114, 117, 101, 32, 102, 97, 108, 115, 101, 32, 114, 97, 105, 115, 101, 32, 116, 114, 121, 32, 110, 111, 116, 32, 114, 101, 102, 32, 97, 114, 114, 97, 121, 32, 103, 101, 116, 32, 115, 101, 116, 32, 108, 101, 110, 32, 115, 105, 122, 101, 32, 98, 121, 116, 101, 32, 99, 97, 116, 32, 103, 101, 116, 99, 32, 112, 117, 116, 99, 32]
def signsB : List UInt8 := [45, 62, 32, 58, 61, 32, 38, 38, 32, 124, 124, 32, 40, 32, 41, 32, 123, 32, 125, 32, 61, 32, 59, 32, 44, 32, 46, 32, 124, 32, 43, 32, 45, 32, 42, 32, 47, 32, 37, 32, 60, 32, 33]
def isWordB (s : List UInt8) : Bool := wordsL.contains s
def runL (l : List UInt8) : List UInt8 := l.takeWhile bodyB
def q2 : Bool → List UInt8 → Option Nat
 | _, [] => none
 | odd, c :: r => if c = 34 ∧ odd = false then some 1 else (q2 (c == 92 && !odd) r).map (· + 1)
def qlen (l : List UInt8) : Option Nat := q2 false l
theorem q2_skip (d : UInt8) (r : List UInt8) : q2 true (d :: r) = (q2 false r).map (· + 1) := by
 simp [q2]
theorem qlen_esc (d : UInt8) (r : List UInt8) : qlen (92 :: d :: r) = (qlen r).map (· + 2) := by
 unfold qlen
 have e : q2 false (92 :: d :: r) = (q2 true (d :: r)).map (· + 1) := by rw [q2]; simp
 rw [e, q2_skip]
 cases q2 false r <;> rfl
theorem qlen_end (r : List UInt8) : qlen (34 :: r) = some 1 := by unfold qlen; rw [q2]; simp
theorem qlen_other (c : UInt8) (r : List UInt8) (h : c ≠ 92) (h2 : c ≠ 34) : qlen (c :: r) = (qlen r).map (· + 1) := by
 unfold qlen; rw [q2, if_neg (fun x => h2 x.1), show (c == 92) = false from beq_eq_false_iff_ne.2 h]; rfl
theorem qlen_one : qlen [92] = none := by unfold qlen; rw [q2]; simp [q2]
def tok (l : List UInt8) : Except Int (Int × List UInt8 × Int × Nat) := match l with
 | [] => .error 20
 | c :: r =>
  if smallB c = true then .ok (if isWordB (runL l) = true then 6 else 1, runL l, 0, (runL l).length)
  else if greatB c = true then .ok (2, runL l, 0, (runL l).length)
  else if c = 35 ∧ r.head?.any greatB = true then .ok (3, runL r, 0, 1 + (runL r).length)
  else if isDig c = true then (if readE (runL l) = 0 then .ok (4, [], readN (runL l), (runL l).length) else .error (if readE (runL l) = 5 then 20 else readE (runL l)))
  else if c = 34 then (match qlen r with
   | none => .error 20
   | some k => match unq (l.take (1 + k)) with
    | none => .error 20
    | some t => .ok (5, t, 0, 1 + k))
  else match signsL.find? (fun x => x.isPrefixOf l) with
   | none => .error 20
   | some x => .ok (7, x, 0, x.length)
structure Tok where
 k : Int
 at' : Nat
 text : List UInt8
 n : Int
def lexL : Nat → Nat → List UInt8 → Except (Int × Nat) (List Tok)
 | _, at0, [] => .ok [⟨0, at0, [], 0⟩]
 | 0, at0, _ :: _ => .error (20, at0)
 | f + 1, at0, c :: r =>
  if c = 32 ∨ c = 10 then lexL f (at0 + 1) r
  else match tok (c :: r) with
   | .error e => .error (e, at0)
   | .ok (k, t, n, m) => match lexL f (at0 + m) ((c :: r).drop m) with
    | .error e => .error e
    | .ok l => .ok (⟨k, at0, t, n⟩ :: l)
def lexOf (s : List UInt8) : Except (Int × Nat) (List Tok) := if 4096 < s.length then .error (4, 0) else lexL s.length 0 s
theorem runL_pos {c : UInt8} {r : List UInt8} (h : bodyB c = true) : 1 ≤ (runL (c :: r)).length := by
 unfold runL; rw [List.takeWhile_cons_of_pos h]; simp
theorem runL_le (l : List UInt8) : (runL l).length ≤ l.length := (List.takeWhile_prefix _).length_le
theorem q2_le : ∀ (l : List UInt8) (o : Bool) (k : Nat), q2 o l = some k → 1 ≤ k ∧ k ≤ l.length
 | [], o, k, h => by simp [q2] at h
 | c :: r, o, k, h => by
  rw [q2] at h
  split at h
  ·cases h; simp
  ·cases e : q2 (c == 92 && !o) r with
   | none => rw [e] at h; cases h
   | some j =>
    rw [e] at h
    have := q2_le r _ j e
    simp only [Option.map_some, Option.some.injEq] at h
    simp only [List.length_cons]
    omega
theorem signs_facts : ∀ x ∈ signsL, 1 ≤ x.length ∧ x.length ≤ 2 ∧ 32 ∉ x ∧ 10 ∉ x := by decide
theorem tok_len {l : List UInt8} {k : Int} {t : List UInt8} {n : Int} {m : Nat} (h : tok l = .ok (k, t, n, m)) : 1 ≤ m ∧ m ≤ l.length := by
 unfold tok at h
 split at h
 ·cases h
 ·rename_i c r
  have hle := runL_le (c :: r)
  split at h
  ·rename_i hs
   simp only [Except.ok.injEq, Prod.mk.injEq] at h
   have := runL_pos (r := r) (show bodyB c = true by unfold bodyB; rw [hs]; rfl)
   omega
  ·split at h
   ·rename_i hs
    simp only [Except.ok.injEq, Prod.mk.injEq] at h
    have := runL_pos (r := r) (show bodyB c = true by unfold bodyB; rw [hs]; simp)
    omega
   ·split at h
    ·simp only [Except.ok.injEq, Prod.mk.injEq] at h
     have := runL_le r
     simp only [List.length_cons]
     omega
    ·split at h
     ·rename_i hs
      split at h
      ·simp only [Except.ok.injEq, Prod.mk.injEq] at h
       have := runL_pos (r := r) (show bodyB c = true by unfold bodyB; rw [hs]; simp)
       omega
      ·cases h
     ·split at h
      ·split at h
       ·cases h
       ·rename_i k' hq
        split at h
        ·cases h
        ·simp only [Except.ok.injEq, Prod.mk.injEq] at h
         have := q2_le r _ k' hq
         simp only [List.length_cons]
         omega
      ·split at h
       ·cases h
       ·rename_i x hx
        simp only [Except.ok.injEq, Prod.mk.injEq] at h
        have hm := List.mem_of_find?_eq_some hx
        have hp := List.find?_some hx
        have h1 := signs_facts x hm
        have h2 := (List.isPrefixOf_iff_prefix.1 hp).length_le
        omega
theorem lexL_fuel : ∀ (n f g at0 : Nat) (l : List UInt8), l.length ≤ n → l.length ≤ f → l.length ≤ g → lexL f at0 l = lexL g at0 l := by
 intro n
 induction n with
 | zero =>
  intro f g at0 l hn _ _
  have : l = [] := List.eq_nil_of_length_eq_zero (by omega)
  subst this
  cases f <;> cases g <;> rfl
 | succ n ih =>
  intro f g at0 l hn hf hg
  match l, hn, hf, hg with
  | [], _, _, _ => cases f <;> cases g <;> rfl
  | c :: r, hn, hf, hg =>
   cases f with
   | zero => simp at hf
   | succ f => cases g with
    | zero => simp at hg
    | succ g =>
     simp only [List.length_cons] at hn hf hg
     rw [lexL, lexL]
     split
     ·exact ih f g _ r (by omega) (by omega) (by omega)
     ·cases e : tok (c :: r) with
      | error x => rfl
      | ok x =>
       obtain ⟨k, t, m, j⟩ := x
       have hl := tok_len e
       have := ih f g (at0 + j) ((c :: r).drop j) (by simp only [List.length_drop, List.length_cons]; omega) (by simp only [List.length_drop, List.length_cons]; omega) (by simp only [List.length_drop, List.length_cons]; omega)
       simp only [this]
theorem words_facts : ∀ x ∈ wordsL, x ≠ [] ∧ 32 ∉ x := by decide
theorem isWord_iff (s : List UInt8) (h0 : s ≠ []) (hb : (32 : UInt8) ∉ s) : isWordB s = true ↔ ([32] ++ s ++ [32]) <:+: wordsB := by
 constructor
 ·intro h
  have hm : s ∈ wordsL := by simpa [isWordB] using h
  have hall : ∀ x ∈ wordsL, (List.range 140).any (fun i => ([32] ++ x ++ [32]).isPrefixOf (wordsB.drop i)) = true := by decide +kernel
  obtain ⟨i, _, hi⟩ := List.any_eq_true.1 (hall s hm)
  exact (List.isPrefixOf_iff_prefix.1 hi).isInfix.trans (List.drop_suffix i wordsB).isInfix
 ·rintro ⟨p, q, hpq⟩
  have key : ∀ i : Fin wordsB.length, wordsB[i] = 32 → (wordsB.drop (i.val + 1)).takeWhile (· != 32) = [] ∨ isWordB ((wordsB.drop (i.val + 1)).takeWhile (· != 32)) = true := by decide +kernel
  have hl : p.length < wordsB.length := by rw [← hpq]; simp
  have h1 : wordsB[p.length] = 32 := by
   have : wordsB[p.length]? = some 32 := by rw [← hpq]; simp
   rw [List.getElem?_eq_getElem hl] at this
   simpa using this
  have h2 : wordsB.drop (p.length + 1) = s ++ (32 :: q) := by rw [← hpq]; simp
  have h3 : (wordsB.drop (p.length + 1)).takeWhile (· != 32) = s := by
   rw [h2, List.takeWhile_append_of_pos (by intro a ha; simp; intro e; exact hb (e ▸ ha))]
   simp
  rcases key ⟨p.length, hl⟩ h1 with h | h
  ·rw [h3] at h; exact absurd h h0
  ·rw [h3] at h; exact h
end Go.Proofs.YtpjkfeehgookkaaGreatDoor
namespace Go.Proofs.YtpjkfeehgookkaaGreatDoor
open Go.RowKit
theorem valD_snocr (l : List UInt8) (c : UInt8) : ∀ acc, valD acc (l ++ [c]) = valD acc l * 10 + (c.toNat - 48) := by
 induction l with
 | nil => intro acc; rfl
 | cons d r ih => intro acc; exact ih (acc * 10 + (d.toNat - 48))
theorem dec_val : ∀ (n : Nat) (l : List UInt8), l.length = n → l ≠ [] → l.all isDig = true → (l.head? = some 48 → l.length ≤ 1) → Lib.decDigits (valD 0 l) = l := by
 intro n
 induction n with
 | zero => intro l hl h0; exact absurd (List.eq_nil_of_length_eq_zero hl) h0
 | succ n ih =>
  intro l hl h0 hd hh
  obtain ⟨y, c, rfl⟩ : ∃ y c, l = y ++ [c] := ⟨l.dropLast, l.getLast h0, (List.dropLast_concat_getLast h0).symm⟩
  rw [List.all_append] at hd
  simp only [List.all_cons, List.all_nil, Bool.and_true, Bool.and_eq_true] at hd
  obtain ⟨hy, hc⟩ := hd
  have hc2 := (isDig_iff c).1 hc
  rw [valD_snocr, Lib.decDigits]
  by_cases e : y = []
  ·subst e
   have : valD 0 [] = 0 := rfl
   rw [this, dif_pos (by omega)]
   have : 48 + (0 * 10 + (c.toNat - 48)) = c.toNat := by omega
   rw [this]
   simp
  ·have hl2 : 1 ≤ y.length := List.length_pos_iff.2 e
   have hh2 : y.head? ≠ some 48 := by
    intro h
    have := hh (by rw [List.head?_append, h]; rfl)
    rw [List.length_append, List.length_singleton] at this
    omega
   have hv : 1 ≤ valD 0 y := by
    cases y with
    | nil => exact absurd rfl e
    | cons d r =>
     have h1 : d ≠ 48 := by simpa using hh2
     have h2 : valD 0 (d :: r) = valD (0 * 10 + (d.toNat - 48)) r := rfl
     rw [h2]
     have h3 := valD_ge r (0 * 10 + (d.toNat - 48))
     simp only [List.all_cons, Bool.and_eq_true] at hy
     have h4 := (isDig_iff d).1 hy.1
     have h5 : d.toNat ≠ 48 := fun h => h1 (UInt8.toNat_inj.1 (by rw [h]; rfl))
     omega
   rw [dif_neg (by omega)]
   have e1 : (valD 0 y * 10 + (c.toNat - 48)) / 10 = valD 0 y := by omega
   have e2 : 48 + (valD 0 y * 10 + (c.toNat - 48)) % 10 = c.toNat := by omega
   rw [e1, e2, ih y (by simp at hl; exact hl) e hy (fun h => absurd h hh2)]
   simp
theorem itoa_read {l : List UInt8} (h : readE l = 0) : Lib.itoa (readN l) = l := by
 unfold readE at h
 split at h
 ·rename_i hn
  split at h
  ·rename_i hv
   unfold readN
   rw [if_pos ⟨hn, hv⟩]
   unfold Lib.itoa
   rw [if_neg (by omega)]
   unfold numeral at hn
   simp only [Bool.not_eq_true', Bool.or_eq_false_iff, Bool.and_eq_false_iff, Bool.not_eq_false'] at hn
   have h0 : l ≠ [] := by intro e; subst e; simp at hn
   rw [Int.toNat_natCast]
   exact dec_val l.length l rfl h0 hn.2 (fun hh => by
    rcases hn.1.2 with h1 | h1
    ·rw [hh] at h1; simp at h1
    ·simpa using h1)
  ·cases h
 ·cases h
def blankB (c : UInt8) : Bool := c == 32 || c == 10
def endsOk (b : List UInt8) : Prop := b = [] ∨ ∃ c r, b = c :: r ∧ blankB c = true
theorem blank_cases {c : UInt8} (h : blankB c = true) : c = 32 ∨ c = 10 := by simpa [blankB] using h
theorem blank_body {c : UInt8} (h : blankB c = true) : bodyB c = false := by
 rcases blank_cases h with rfl | rfl <;> decide
theorem blank_great {c : UInt8} (h : blankB c = true) : greatB c = false := by
 rcases blank_cases h with rfl | rfl <;> decide
theorem takeWhile_ends (p : UInt8 → Bool) (hp : ∀ c, blankB c = true → p c = false) {b : List UInt8} (hb : endsOk b) : ∀ l : List UInt8, (l ++ b).takeWhile p = l.takeWhile p
 | [] => by
  rcases hb with rfl | ⟨c, r, rfl, hc⟩
  ·rfl
  ·rw [List.nil_append, List.takeWhile_cons_of_neg (by simp [hp c hc])]; rfl
 | c :: l => by
  by_cases h : p c = true
  ·rw [List.cons_append, List.takeWhile_cons_of_pos h, List.takeWhile_cons_of_pos h, takeWhile_ends p hp hb l]
  ·rw [List.cons_append, List.takeWhile_cons_of_neg h, List.takeWhile_cons_of_neg h]
theorem runL_ends {b : List UInt8} (hb : endsOk b) (l : List UInt8) : runL (l ++ b) = runL l := takeWhile_ends bodyB (fun _ h => blank_body h) hb l
theorem q2_app (b : List UInt8) : ∀ (l : List UInt8) (o : Bool) (k : Nat), q2 o l = some k → q2 o (l ++ b) = some k
 | [], o, k, h => by simp [q2] at h
 | c :: l, o, k, h => by
  rw [List.cons_append]
  rw [q2] at h ⊢
  split at h
  ·rename_i hc; rw [if_pos hc]; exact h
  ·rename_i hc
   rw [if_neg hc]
   cases e : q2 (c == 92 && !o) l with
   | none => rw [e] at h; cases h
   | some j => rw [e] at h; rw [q2_app b l _ j e]; exact h
theorem q2_blanks : ∀ (b : List UInt8) (o : Bool), (∀ c ∈ b, blankB c = true) → q2 o b = none
 | [], _, _ => rfl
 | c :: b, o, h => by
  have hc := blank_cases (h c (List.mem_cons_self ..))
  rw [q2, if_neg (by rintro ⟨rfl, _⟩; revert hc; decide), q2_blanks b _ (fun x hx => h x (List.mem_cons_of_mem _ hx))]
  rfl
theorem q2_none (b : List UInt8) (hb : ∀ c ∈ b, blankB c = true) : ∀ (l : List UInt8) (o : Bool), q2 o l = none → q2 o (l ++ b) = none
 | [], o, _ => q2_blanks b o hb
 | c :: l, o, h => by
  rw [List.cons_append]
  rw [q2] at h ⊢
  split at h
  ·cases h
  ·rename_i hc
   rw [if_neg hc]
   cases e : q2 (c == 92 && !o) l with
   | none => rw [q2_none b hb l _ e]; rfl
   | some j => rw [e] at h; cases h
theorem q2_take : ∀ (l : List UInt8) (o : Bool) (k : Nat), q2 o l = some k → q2 o (l.take k) = some k
 | [], o, k, h => by simp [q2] at h
 | c :: l, o, k, h => by
  have h' := h
  rw [q2] at h
  split at h
  ·rename_i hc; cases h; rw [List.take_succ_cons, q2, if_pos hc]
  ·rename_i hc
   cases e : q2 (c == 92 && !o) l with
   | none => rw [e] at h; cases h
   | some j =>
    rw [e] at h
    simp only [Option.map_some, Option.some.injEq] at h
    subst h
    rw [List.take_succ_cons, q2, if_neg hc, q2_take l _ j e]; rfl
theorem sign_ends {b : List UInt8} (hb : endsOk b) {x : List UInt8} (hx : x ∈ signsL) (l : List UInt8) : x.isPrefixOf (l ++ b) = x.isPrefixOf l := by
 rw [Bool.eq_iff_iff, List.isPrefixOf_iff_prefix, List.isPrefixOf_iff_prefix]
 obtain ⟨_, _, h32, h10⟩ := signs_facts x hx
 constructor
 ·intro h
  rcases hb with rfl | ⟨c, r, rfl, hc⟩
  ·simpa using h
  ·rcases Nat.lt_or_ge l.length x.length with hl | hl
   ·exfalso
    obtain ⟨t, ht⟩ := h
    have h1 : (x ++ t)[l.length]? = some c := by rw [ht]; simp
    rw [List.getElem?_append_left hl] at h1
    have hm := List.mem_of_getElem? h1
    rcases blank_cases hc with rfl | rfl
    ·exact h32 hm
    ·exact h10 hm
   ·exact List.prefix_of_prefix_length_le h (List.prefix_append l _) hl
 ·intro h; exact h.trans (List.prefix_append l b)
theorem find_congr {p q : List UInt8 → Bool} : ∀ (l : List (List UInt8)), (∀ x ∈ l, p x = q x) → l.find? p = l.find? q
 | [], _ => rfl
 | x :: l, h => by
  rw [List.find?_cons, List.find?_cons, h x (List.mem_cons_self ..), find_congr l (fun y hy => h y (List.mem_cons_of_mem _ hy))]
theorem head_any {b : List UInt8} (hb : endsOk b) (r : List UInt8) : (r ++ b).head?.any greatB = r.head?.any greatB := by
 cases r with
 | cons d r => rfl
 | nil =>
  rcases hb with rfl | ⟨c, t, rfl, hc⟩
  ·rfl
  ·simp [blank_great hc]
theorem tok_app (c : UInt8) (r b : List UInt8) (hb : endsOk b) (hq : c = 34 → (qlen r).isSome = true ∨ ∀ x ∈ b, blankB x = true) : tok (c :: (r ++ b)) = tok (c :: r) := by
 have e1 : runL (c :: (r ++ b)) = runL (c :: r) := runL_ends hb (c :: r)
 have e3 : signsL.find? (fun x => x.isPrefixOf (c :: (r ++ b))) = signsL.find? (fun x => x.isPrefixOf (c :: r)) := find_congr _ (fun x hx => sign_ends hb hx (c :: r))
 unfold tok
 simp only [e1, runL_ends hb r, head_any hb r, e3]
 by_cases h34 : c = 34
 ·subst h34
  have hqq : qlen (r ++ b) = qlen r := by
   unfold qlen at hq ⊢
   cases e : q2 false r with
   | some k => exact q2_app b r false k e
   | none =>
    rcases hq rfl with h | h
    ·rw [e] at h; cases h
    ·exact q2_none b h r false e
  rw [hqq]
  cases e : qlen r with
  | none => rfl
  | some k =>
   have hk := q2_le r false k e
   have et : (34 :: (r ++ b)).take (1 + k) = (34 :: r).take (1 + k) := by
    rw [← List.cons_append, List.take_append_of_le_length (by simp; omega)]
   simp only [et]
 ·simp only [if_neg h34]
def tokText (k : Int) (t : List UInt8) (n : Int) : List UInt8 := if k = 3 then 35 :: t else if k = 4 then Lib.itoa n else if k = 5 then quoteL t else t
theorem runL_take (l : List UInt8) : l.take (runL l).length = runL l := (List.prefix_iff_eq_take.1 (List.takeWhile_prefix bodyB)).symm
theorem runL_idem (l : List UInt8) : runL (runL l) = runL l := by
 unfold runL
 induction l with
 | nil => rfl
 | cons c l ih =>
  by_cases h : bodyB c = true
  ·rw [List.takeWhile_cons_of_pos h, List.takeWhile_cons_of_pos h, ih]
  ·rw [List.takeWhile_cons_of_neg h]; rfl
theorem runL_cons {c : UInt8} (r : List UInt8) (h : bodyB c = true) : runL (c :: r) = c :: runL r := List.takeWhile_cons_of_pos h
theorem body_small {c : UInt8} (h : smallB c = true) : bodyB c = true := by unfold bodyB; rw [h]; rfl
theorem body_great {c : UInt8} (h : greatB c = true) : bodyB c = true := by unfold bodyB; rw [h]; simp
theorem body_dig {c : UInt8} (h : isDig c = true) : bodyB c = true := by unfold bodyB; rw [h]; simp
theorem tok_kind {l : List UInt8} {k : Int} {t : List UInt8} {n : Int} {m : Nat} (h : tok l = .ok (k, t, n, m)) : 1 ≤ k ∧ k ≤ 7 := by
 unfold tok at h
 split at h
 ·cases h
 ·split at h
  ·simp only [Except.ok.injEq, Prod.mk.injEq] at h; obtain ⟨rfl, _⟩ := h; split <;> omega
  ·split at h
   ·simp only [Except.ok.injEq, Prod.mk.injEq] at h; omega
   ·split at h
    ·simp only [Except.ok.injEq, Prod.mk.injEq] at h; omega
    ·split at h
     ·split at h
      ·simp only [Except.ok.injEq, Prod.mk.injEq] at h; omega
      ·cases h
     ·split at h
      ·split at h
       ·cases h
       ·split at h
        ·cases h
        ·simp only [Except.ok.injEq, Prod.mk.injEq] at h; omega
      ·split at h
       ·cases h
       ·simp only [Except.ok.injEq, Prod.mk.injEq] at h; omega
theorem tok_self {l : List UInt8} {k : Int} {t : List UInt8} {n : Int} {m : Nat} (h : tok l = .ok (k, t, n, m)) : l.take m = tokText k t n ∧ tok (l.take m) = .ok (k, t, n, m) := by
 have h0 := h
 unfold tok at h
 split at h
 ·cases h
 ·rename_i c r
  split at h
  ·rename_i h1
   simp only [Except.ok.injEq, Prod.mk.injEq] at h
   obtain ⟨rfl, rfl, rfl, rfl⟩ := h
   rw [runL_take]
   refine ⟨?_, ?_⟩
   ·unfold tokText; split <;> rfl
   ·have e : runL (c :: r) = c :: runL r := runL_cons r (body_small h1)
    rw [e, tok, if_pos h1, ← e, runL_idem]
  ·rename_i h1
   split at h
   ·rename_i h2
    simp only [Except.ok.injEq, Prod.mk.injEq] at h
    obtain ⟨rfl, rfl, rfl, rfl⟩ := h
    rw [runL_take]
    refine ⟨rfl, ?_⟩
    have e : runL (c :: r) = c :: runL r := runL_cons r (body_great h2)
    rw [e, tok, if_neg h1, if_pos h2, ← e, runL_idem]
   ·rename_i h2
    split at h
    ·rename_i h3
     simp only [Except.ok.injEq, Prod.mk.injEq] at h
     obtain ⟨rfl, rfl, rfl, rfl⟩ := h
     have e : (c :: r).take (1 + (runL r).length) = 35 :: runL r := by
      rw [Nat.add_comm, List.take_succ_cons, runL_take, h3.1]
     rw [e]
     refine ⟨rfl, ?_⟩
     have hh : (runL r).head?.any greatB = true := by
      cases r with
      | nil => exact absurd h3.2 (by simp)
      | cons d r => rw [runL_cons r (body_great (by simpa using h3.2))]; simpa using h3.2
     rw [tok, if_neg (by decide), if_neg (by decide), if_pos ⟨rfl, hh⟩, runL_idem]
    ·rename_i h3
     split at h
     ·rename_i h4
      split at h
      ·rename_i h5
       simp only [Except.ok.injEq, Prod.mk.injEq] at h
       obtain ⟨rfl, rfl, rfl, rfl⟩ := h
       rw [runL_take]
       refine ⟨(itoa_read h5).symm, ?_⟩
       have e : runL (c :: r) = c :: runL r := runL_cons r (body_dig h4)
       have n3 : c ≠ 35 := by intro hh; subst hh; exact absurd h4 (by decide)
       rw [e, tok, if_neg h1, if_neg h2, if_neg (fun x => n3 x.1), if_pos h4, ← e, runL_idem, if_pos h5]
      ·cases h
     ·rename_i h4
      split at h
      ·rename_i h5
       split at h
       ·cases h
       ·rename_i j hq
        split at h
        ·cases h
        ·rename_i t' hu
         simp only [Except.ok.injEq, Prod.mk.injEq] at h
         obtain ⟨rfl, rfl, rfl, rfl⟩ := h
         refine ⟨(unq_some hu).symm, ?_⟩
         subst h5
         have e : (34 :: r).take (1 + j) = 34 :: r.take j := by rw [Nat.add_comm, List.take_succ_cons]
         have hj : qlen (r.take j) = some j := q2_take r false j hq
         rw [e] at hu ⊢
         have et : (34 :: r.take j).take (1 + j) = 34 :: r.take j := by
          rw [Nat.add_comm, List.take_succ_cons, List.take_take, Nat.min_self]
         rw [tok, if_neg (by decide), if_neg (by decide), if_neg (fun x => absurd x.1 (by decide)), if_neg (by decide), if_pos rfl]
         simp only [hj, et, hu]
      ·rename_i h5
       split at h
       ·cases h
       ·rename_i x hx
        simp only [Except.ok.injEq, Prod.mk.injEq] at h
        obtain ⟨rfl, rfl, rfl, rfl⟩ := h
        have hp := List.isPrefixOf_iff_prefix.1 (List.find?_some (p := fun x : List UInt8 => x.isPrefixOf (c :: r)) hx)
        have hm := List.mem_of_find?_eq_some hx
        have e : (c :: r).take x.length = x := (List.prefix_iff_eq_take.1 hp).symm
        rw [e]
        refine ⟨rfl, ?_⟩
        obtain ⟨d, y, rfl⟩ : ∃ d y, x = d :: y := by
         have := (signs_facts x hm).1
         cases x with
         | nil => simp at this
         | cons d y => exact ⟨d, y, rfl⟩
        have hd : d = c := by
         obtain ⟨z, hz⟩ := hp
         simp at hz
         exact hz.1
        subst hd
        have all : ∀ x ∈ signsL, smallB (x.headD 0) = false ∧ greatB (x.headD 0) = false ∧ x.headD 0 ≠ 35 ∧ isDig (x.headD 0) = false ∧ x.headD 0 ≠ 34 ∧ signsL.find? (fun z => z.isPrefixOf x) = some x := by decide +kernel
        have ha := all _ hm
        rw [List.headD_cons] at ha
        obtain ⟨a1, a2, a3, a4, a5, a6⟩ := ha
        rw [tok, if_neg (by simp [a1]), if_neg (by simp [a2]), if_neg (fun x => a3 x.1), if_neg (by simp [a4]), if_neg a5]
        simp only [a6]
theorem tok_text {l : List UInt8} {k : Int} {t : List UInt8} {n : Int} {m : Nat} (h : tok l = .ok (k, t, n, m)) : l.take m = tokText k t n := (tok_self h).1
theorem tok_mlen {l : List UInt8} {k : Int} {t : List UInt8} {n : Int} {m : Nat} (h : tok l = .ok (k, t, n, m)) : (tokText k t n).length = m := by
 rw [← tok_text h, List.length_take]
 have := tok_len h
 omega
theorem tok_again {l : List UInt8} {k : Int} {t : List UInt8} {n : Int} {m : Nat} (h : tok l = .ok (k, t, n, m)) (b : List UInt8) (hb : endsOk b) : tok (l.take m ++ b) = .ok (k, t, n, m) := by
 have h2 := (tok_self h).2
 cases e : l.take m with
 | nil => rw [e, tok] at h2; cases h2
 | cons c r =>
  rw [e] at h2
  rw [List.cons_append, tok_app c r b hb (fun h34 => by
   left
   subst h34
   rw [tok, if_neg (by decide), if_neg (by decide), if_neg (fun x => absurd x.1 (by decide)), if_neg (by decide), if_pos rfl] at h2
   cases eq : qlen r with
   | none => rw [eq] at h2; cases h2
   | some k => rfl), h2]
theorem tok_more {c : UInt8} {r : List UInt8} {x : Int × List UInt8 × Int × Nat} (h : tok (c :: r) = .ok x) (b : List UInt8) (hb : endsOk b) : tok (c :: (r ++ b)) = .ok x := by
 rw [tok_app c r b hb (fun h34 => by
   left
   subst h34
   rw [tok, if_neg (by decide), if_neg (by decide), if_neg (fun x => absurd x.1 (by decide)), if_neg (by decide), if_pos rfl] at h
   cases eq : qlen r with
   | none => rw [eq] at h; cases h
   | some k => rfl), h]
end Go.Proofs.YtpjkfeehgookkaaGreatDoor
namespace Go.Proofs.YtpjkfeehgookkaaGreatDoor
open Go.RowKit
theorem lexL_nil (f a : Nat) : lexL f a [] = .ok [⟨0, a, [], 0⟩] := by cases f <;> rfl
theorem lexL_blank (f a : Nat) {c : UInt8} (r : List UInt8) (h : blankB c = true) : lexL (f + 1) a (c :: r) = lexL f (a + 1) r := by
 rw [lexL, if_pos (blank_cases h)]
theorem lexL_tok (f a : Nat) {c : UInt8} (r : List UInt8) (h : blankB c = false) : lexL (f + 1) a (c :: r) = match tok (c :: r) with
  | .error e => .error (e, a)
  | .ok (k, t, n, m) => match lexL f (a + m) ((c :: r).drop m) with
   | .error e => .error e
   | .ok l => .ok (⟨k, a, t, n⟩ :: l) := by
 rw [lexL, if_neg (fun hc => by rw [Bool.eq_false_iff] at h; exact h (by simpa [blankB] using hc))]
 all_goals
  cases tok (c :: r) with
  | error e => rfl
  | ok x => rfl
theorem lexL_ind {P : Nat → List UInt8 → List Tok → Prop} (h0 : ∀ a, P a [] [⟨0, a, [], 0⟩])
  (h1 : ∀ a c r ts, blankB c = true → P (a + 1) r ts → P a (c :: r) ts)
  (h2 : ∀ a c r k t n m ts, blankB c = false → tok (c :: r) = .ok (k, t, n, m) → P (a + m) ((c :: r).drop m) ts → P a (c :: r) (⟨k, a, t, n⟩ :: ts)) :
  ∀ (f a : Nat) (l : List UInt8) (ts : List Tok), lexL f a l = .ok ts → P a l ts
 | f, a, [], ts, h => by rw [lexL_nil] at h; cases h; exact h0 a
 | 0, a, c :: r, ts, h => by cases h
 | f + 1, a, c :: r, ts, h => by
  cases hb : blankB c with
  | true => rw [lexL_blank f a r hb] at h; exact h1 a c r ts hb (lexL_ind h0 h1 h2 f (a + 1) r ts h)
  | false =>
   rw [lexL_tok f a r hb] at h
   cases ht : tok (c :: r) with
   | error e => rw [ht] at h; cases h
   | ok x =>
    obtain ⟨k, t, n, m⟩ := x
    rw [ht] at h
    simp only at h
    cases hl : lexL f (a + m) ((c :: r).drop m) with
    | error e => rw [hl] at h; cases h
    | ok l' => rw [hl] at h; cases h; exact h2 a c r k t n m l' hb ht (lexL_ind h0 h1 h2 f (a + m) _ l' hl)
def stripT (t : Tok) : Int × List UInt8 × Int := (t.k, t.text, t.n)
def GoodT (y : Tok) : Prop := 1 ≤ y.k ∧ y.k ≤ 7 ∧ 1 ≤ (tokText y.k y.text y.n).length ∧ ∀ b, endsOk b → tok (tokText y.k y.text y.n ++ b) = .ok (y.k, y.text, y.n, (tokText y.k y.text y.n).length)
theorem lexL_last {f a : Nat} {l : List UInt8} {ts : List Tok} (h : lexL f a l = .ok ts) : ∃ ys, ts = ys ++ [⟨0, a + l.length, [], 0⟩] ∧ ∀ y ∈ ys, GoodT y := by
 refine lexL_ind (P := fun a l ts => ∃ ys, ts = ys ++ [⟨0, a + l.length, [], 0⟩] ∧ ∀ y ∈ ys, GoodT y) ?_ ?_ ?_ f a l ts h
 ·intro a; exact ⟨[], rfl, fun _ h => by cases h⟩
 ·rintro a c r ts _ ⟨ys, rfl, hy⟩
  exact ⟨ys, by rw [List.length_cons]; simp only [List.append_cancel_left_eq, List.cons.injEq, Tok.mk.injEq, true_and, and_true]; omega, hy⟩
 ·rintro a c r k t n m ts _ ht ⟨ys, rfl, hy⟩
  have hm := tok_len ht
  have hk := tok_kind ht
  have hl := tok_mlen ht
  refine ⟨⟨k, a, t, n⟩ :: ys, ?_, ?_⟩
  ·rw [List.length_drop, List.cons_append]; simp only [List.append_cancel_left_eq, List.cons.injEq, Tok.mk.injEq, true_and, and_true]; omega
  ·intro y hy'
   rcases List.mem_cons.1 hy' with rfl | hy'
   ·refine ⟨hk.1, hk.2, by rw [hl]; exact hm.1, fun b hb => ?_⟩
    show tok (tokText k t n ++ b) = _
    rw [← tok_text ht, tok_again ht b hb]
    simp only [List.length_take]
    rw [Nat.min_eq_left hm.2]
   ·exact hy y hy'
theorem tok_errs {l : List UInt8} {e : Int} (h : tok l = .error e) : e = 20 ∨ e = 2 := by
 unfold tok at h
 split at h
 ·cases h; exact .inl rfl
 ·split at h
  ·cases h
  ·split at h
   ·cases h
   ·split at h
    ·cases h
    ·split at h
     ·split at h
      ·cases h
      ·rename_i c r _ _ _ _ hr
       cases h
       unfold readE at hr ⊢
       split at hr
       ·split at hr
        ·exact absurd rfl hr
        ·rename_i h1 h2; rw [if_pos h1, if_neg h2]; simp
       ·rename_i h1; rw [if_neg h1]; simp
     ·split at h
      ·split at h
       ·cases h; exact .inl rfl
       ·split at h
        ·cases h; exact .inl rfl
        ·cases h
      ·split at h
       ·cases h; exact .inl rfl
       ·cases h
theorem lexL_err : ∀ (f a : Nat) (l : List UInt8) (e : Int) (p : Nat), l.length ≤ f → lexL f a l = .error (e, p) → a ≤ p ∧ p < a + l.length ∧ (e = 20 ∨ e = 2)
 | f, a, [], e, p, _, h => by rw [lexL_nil] at h; cases h
 | 0, a, c :: r, e, p, hf, _ => by simp at hf
 | f + 1, a, c :: r, e, p, hf, h => by
  simp only [List.length_cons] at hf ⊢
  cases hb : blankB c with
  | true =>
   rw [lexL_blank f a r hb] at h
   have := lexL_err f (a + 1) r e p (by omega) h
   exact ⟨by omega, by omega, this.2.2⟩
  | false =>
   rw [lexL_tok f a r hb] at h
   cases ht : tok (c :: r) with
   | error x => rw [ht] at h; cases h; exact ⟨by omega, by omega, tok_errs ht⟩
   | ok x =>
    obtain ⟨k, t, n, m⟩ := x
    have hm := tok_len ht
    rw [List.length_cons] at hm
    rw [ht] at h
    simp only at h
    cases hl : lexL f (a + m) ((c :: r).drop m) with
    | error x =>
     rw [hl] at h; cases h
     have := lexL_err f (a + m) _ e p (by rw [List.length_drop, List.length_cons]; omega) hl
     rw [List.length_drop, List.length_cons] at this
     exact ⟨by omega, by omega, this.2.2⟩
    | ok l' => rw [hl] at h; cases h
def shiftT (d : Nat) (t : Tok) : Tok := ⟨t.k, t.at' + d, t.text, t.n⟩
def shiftR (d : Nat) : Except (Int × Nat) (List Tok) → Except (Int × Nat) (List Tok)
 | .error (e, p) => .error (e, p + d)
 | .ok ts => .ok (ts.map (shiftT d))
theorem lexL_shift (d : Nat) : ∀ (f a : Nat) (l : List UInt8), lexL f (a + d) l = shiftR d (lexL f a l)
 | f, a, [] => by rw [lexL_nil, lexL_nil]; rfl
 | 0, a, c :: r => rfl
 | f + 1, a, c :: r => by
  cases hb : blankB c with
  | true => rw [lexL_blank f _ r hb, lexL_blank f _ r hb, ← lexL_shift d f (a + 1) r]; congr 1; omega
  | false =>
   rw [lexL_tok f _ r hb, lexL_tok f _ r hb]
   cases tok (c :: r) with
   | error x => rfl
   | ok x =>
    obtain ⟨k, t, n, m⟩ := x
    simp only
    have e : a + d + m = a + m + d := by omega
    rw [e, lexL_shift d f (a + m) _]
    cases lexL f (a + m) ((c :: r).drop m) with
    | error x => rfl
    | ok l' => rfl
def joinR (ts : List Tok) : Except (Int × Nat) (List Tok) → Except (Int × Nat) (List Tok)
 | .error e => .error e
 | .ok ys => .ok (ts.dropLast ++ ys)
theorem lexL_app (c0 : UInt8) (h0 : blankB c0 = true) (b : List UInt8) : ∀ (f a : Nat) (l : List UInt8) (ts : List Tok), l.length ≤ f → lexL f a l = .ok ts → ∀ g, l.length + 1 + b.length ≤ g →
  lexL g a (l ++ c0 :: b) = joinR ts (lexL b.length (a + l.length + 1) b)
 | f, a, [], ts, _, h, g, hg => by
  rw [lexL_nil] at h; cases h
  obtain ⟨g', rfl⟩ : ∃ g', g = g' + 1 := ⟨g - 1, by simp at hg; omega⟩
  rw [List.nil_append, lexL_blank g' a b h0, List.length_nil, Nat.add_zero, lexL_fuel b.length g' b.length (a + 1) b (by omega) (by simp at hg; omega) (by omega)]
  cases lexL b.length (a + 1) b with
  | error x => rfl
  | ok ys => rfl
 | 0, a, c :: r, ts, hf, _, _, _ => by simp at hf
 | f + 1, a, c :: r, ts, hf, h, g, hg => by
  simp only [List.length_cons] at hf hg ⊢
  obtain ⟨g', rfl⟩ : ∃ g', g = g' + 1 := ⟨g - 1, by omega⟩
  rw [List.cons_append]
  cases hb : blankB c with
  | true =>
   rw [lexL_blank f a r hb] at h
   rw [lexL_blank g' a _ hb, lexL_app c0 h0 b f (a + 1) r ts (by omega) h g' (by omega)]
   congr 2
   omega
  | false =>
   rw [lexL_tok f a r hb] at h
   rw [lexL_tok g' a _ hb]
   cases ht : tok (c :: r) with
   | error x => rw [ht] at h; cases h
   | ok x =>
    obtain ⟨k, t, n, m⟩ := x
    have hm := tok_len ht
    rw [List.length_cons] at hm
    rw [ht] at h
    rw [tok_more ht (c0 :: b) (.inr ⟨c0, b, rfl, h0⟩)]
    simp only at h ⊢
    cases hl : lexL f (a + m) ((c :: r).drop m) with
    | error x => rw [hl] at h; cases h
    | ok l' =>
     rw [hl] at h; cases h
     have ed : (c :: (r ++ c0 :: b)).drop m = (c :: r).drop m ++ c0 :: b := by
      rw [← List.cons_append, List.drop_append_of_le_length (by simpa using hm.2)]
     have ln : ((c :: r).drop m).length = r.length + 1 - m := by rw [List.length_drop, List.length_cons]
     rw [ed, lexL_app c0 h0 b f (a + m) _ l' (by rw [ln]; omega) hl g' (by rw [ln]; omega), ln]
     have e2 : a + m + (r.length + 1 - m) + 1 = a + (r.length + 1) + 1 := by omega
     rw [e2]
     obtain ⟨ys, hys, _⟩ := lexL_last hl
     cases lexL b.length (a + (r.length + 1) + 1) b with
     | error x => rfl
     | ok zs =>
      have hn : l' ≠ [] := by rw [hys]; simp
      simp only [joinR, List.dropLast_cons_of_ne_nil hn, List.cons_append]
theorem lexL_ahead (l : List UInt8) : ∀ (p : List UInt8), (∀ x ∈ p, blankB x = true) → ∀ f a, p.length ≤ f → lexL f a (p ++ l) = lexL (f - p.length) (a + p.length) l
 | [], _, f, a, _ => by simp
 | c :: p, hp, f, a, hf => by
  simp only [List.length_cons] at hf ⊢
  obtain ⟨f', rfl⟩ : ∃ f', f = f' + 1 := ⟨f - 1, by omega⟩
  rw [List.cons_append, lexL_blank f' a _ (hp c (List.mem_cons_self ..)), lexL_ahead l p (fun x hx => hp x (List.mem_cons_of_mem _ hx)) f' (a + 1) (by omega)]
  congr 1 <;> omega
theorem lexL_blanks (b : List UInt8) (hb : ∀ x ∈ b, blankB x = true) (f a : Nat) (hf : b.length ≤ f) : lexL f a b = .ok [⟨0, a + b.length, [], 0⟩] := by
 have := lexL_ahead [] b hb f a hf
 rw [List.append_nil, lexL_nil] at this
 exact this
end Go.Proofs.YtpjkfeehgookkaaGreatDoor
namespace Go.Proofs.YtpjkfeehgookkaaGreatDoor
open Go.RowKit
inductive PatT where
 | mk (k a : Int) (nm : List UInt8) (n : Int) (s : List UInt8) (ls : List (List UInt8)) (args : List PatT)
inductive ExprT where
 | mk (k a : Int) (nm : List UInt8) (n : Int) (s : List UInt8) (ls : List (List UInt8)) (args : List ExprT) (arms : List (PatT × ExprT))
def PatT.zero : PatT := .mk 0 0 [] 0 [] [] []
def ExprT.zero : ExprT := .mk 0 0 [] 0 [] [] [] []
def ExprT.at_ : ExprT → Int
 | .mk _ a _ _ _ _ _ _ => a
inductive PNT where
 | pat | patom
 | marked (x : PatT)
 | recL (a : Int) (ls : List (List UInt8)) (args : List PatT)
inductive NT where
 | seq | item | fn
 | arms (k a : Int)
 | armsL (k a : Int) (x : ExprT) (acc : List (PatT × ExprT))
 | or | and | cmp | sum
 | sumL (a : ExprT)
 | prod
 | prodL (a : ExprT)
 | unary | app
 | opL (n a : Int) (m : Nat) (acc : List ExprT)
 | appL (a : ExprT)
 | post
 | postL (a : ExprT)
 | atom
 | braces (a : Int)
 | recL (a : Int) (ls : List (List UInt8)) (args : List ExprT)
inductive Cmd where
 | retE (x : ExprT)
 | retP (x : PatT)
 | look (k : Tok → Bool → Cmd)
 | ahead (k : Tok → Cmd)
 | adv (k : Cmd)
 | fail (k : Cmd)
 | callE (nt : NT) (k : ExprT → Cmd)
 | callP (nt : PNT) (k : PatT → Cmd)
def wordT (t : Tok) : Bool := t.k == 6 || t.k == 7
def isB (t : Tok) (ok : Bool) (l : List (List UInt8)) : Bool := ok && wordT t && l.contains t.text
def isC (l : List (List UInt8)) (k : Bool → Cmd) : Cmd := .look fun t ok => k (isB t ok l)
def mayC (s : List UInt8) (k : Bool → Cmd) : Cmd := .look fun t ok => if isB t ok [s] = true then .adv (k true) else k false
def mustC (s : List UInt8) (k : Cmd) : Cmd := .look fun t ok => if isB t ok [s] = true then .adv k else .fail k
def nameB (t : Tok) (ok : Bool) : Bool := ok && t.k == 1
def nameC (k : List UInt8 → Cmd) : Cmd := .look fun t ok => if nameB t ok = true then .adv (k t.text) else .fail (k [])
def nextC (k : Tok → Cmd) : Cmd := .look fun t ok => if (ok && t.k != 0) = true then .adv (k t) else k t
def beginsB (t : Tok) (ok : Bool) : Bool := (ok && (t.k == 1 || t.k == 2 || t.k == 4 || t.k == 5)) || isB t ok [[116, 114, 117, 101], [102, 97, 108, 115, 101], [40], [123], [33]]
def numberOf (s : List UInt8) : Int := if s = [61] then 7 else if s = [60] then 8 else if s = [43] then 1 else if s = [45] then 2 else if s = [42] then 3 else if s = [47] then 4 else 5
def calledOf (s : List UInt8) : Int × Nat :=
 if s = [114, 101, 102] then (10, 1) else if s = [108, 101, 110] then (16, 1) else if s = [115, 105, 122, 101] then (17, 1)
 else if s = [103, 101, 116, 99] then (20, 1) else if s = [112, 117, 116, 99] then (21, 1) else if s = [97, 114, 114, 97, 121] then (13, 2)
 else if s = [103, 101, 116] then (14, 2) else if s = [98, 121, 116, 101] then (18, 2) else if s = [99, 97, 116] then (19, 2)
 else if s = [115, 101, 116] then (15, 3) else (0, 0)
def nodeE (k a : Int) (args : List ExprT) : ExprT := .mk k a [] 0 [] [] args []
def opE (n a : Int) (args : List ExprT) : ExprT := .mk 19 a [] n [] [] args []
def bodyP : PNT → Cmd
 | .pat => .look fun t ok => if (ok && t.k == 3) = true then .adv (.callP .patom fun x => .retP (.mk 8 t.at' t.text 0 [] [] [x])) else .callP .patom .retP
 | .patom => .look fun t ok =>
  if ok = false then .retP .zero
  else if t.k = 1 then .adv (.retP (if t.text = [95] then .mk 1 t.at' [] 0 [] [] [] else .mk 2 t.at' t.text 0 [] [] []))
  else if t.k = 2 then .adv (.retP (.mk 7 t.at' t.text 0 [] [] []))
  else if t.k = 4 then .adv (.retP (.mk 3 t.at' [] t.n [] [] []))
  else if t.k = 5 then .adv (.retP (.mk 4 t.at' [] 0 t.text [] []))
  else .callP (.marked (.mk 0 t.at' [] 0 [] [] [])) .retP
 | .marked (.mk k a nm n s ls args) =>
  mayC [45] fun b => if b = true then (.look fun t ok => if t.k = 4 then (if ok = true then .adv (.retP (.mk 3 a nm (wrap64 (-t.n)) s ls args)) else .retP (.mk 3 a nm (wrap64 (-t.n)) s ls args)) else .fail (.retP (.mk 3 a nm n s ls args))) else
  mayC [116, 114, 117, 101] fun b => if b = true then .retP (.mk 5 a nm 1 s ls args) else
  mayC [102, 97, 108, 115, 101] fun b => if b = true then .retP (.mk 5 a nm n s ls args) else
  mayC [40] fun b => if b = true then (mayC [41] fun b => if b = true then .retP (.mk 6 a nm n s ls args) else .callP .pat fun x => mustC [41] (.retP x)) else
  mayC [123] fun b => if b = true then (mayC [125] fun b => if b = true then .retP (.mk 9 a nm n s ls args) else .look fun _ ok => if ok = true then .callP (.recL a ls args) .retP else mustC [125] (.retP (.mk 9 a nm n s ls args))) else
  .fail (.retP (.mk k a nm n s ls args))
 | .recL a ls args => nameC fun x => mustC [61] (.callP .pat fun p => mayC [44] fun b => if b = true then .callP (.recL a (ls ++ [x]) (args ++ [p])) .retP else mustC [125] (.retP (.mk 9 a [] 0 [] (ls ++ [x]) (args ++ [p]))))
def body : NT → Cmd
 | .seq => .callE .item fun a => .look fun t _ => mayC [59] fun b => if b = true then .callE .seq fun c => .retE (nodeE 20 t.at' [a, c]) else .retE a
 | .item => .look fun t _ =>
  mayC [108, 101, 116] fun b => if b = true then
   (mayC [114, 101, 99] fun r => nameC fun nm => mustC [61] (.callE (if r = true then .fn else .seq) fun x => mustC [105, 110] (.callE .seq fun y => .retE (.mk (if r = true then 10 else 9) t.at' nm 0 [] [] [x, y] [])))) else
  isC [[102, 117, 110]] fun b => if b = true then .callE .fn .retE else
  mayC [109, 97, 116, 99, 104] fun b => if b = true then .callE (.arms 16 t.at') .retE else
  mayC [116, 114, 121] fun b => if b = true then .callE (.arms 17 t.at') .retE else
  mayC [105, 102] fun b => if b = true then (.callE .seq fun x => mustC [116, 104, 101, 110] (.callE .item fun y => mustC [101, 108, 115, 101] (.callE .item fun z => .retE (nodeE 11 t.at' [x, y, z])))) else
  mayC [114, 97, 105, 115, 101] fun b => if b = true then (.callE .post fun x => .retE (nodeE 18 t.at' [x])) else
  .callE .or fun a => .look fun t _ => mayC [58, 61] fun b => if b = true then .callE .item fun c => .retE (opE 12 t.at' [a, c]) else .retE a
 | .fn => .look fun t _ => mustC [102, 117, 110] (nameC fun nm => mustC [45, 62] (.callE .seq fun x => .retE (.mk 7 t.at' nm 0 [] [] [x] [])))
 | .arms k a => .callE .seq fun x => mustC [119, 105, 116, 104] (.look fun _ ok => if ok = true then .callE (.armsL k a x []) .retE else mustC [101, 110, 100] (.retE (.mk k a [] 0 [] [] [x] [])))
 | .armsL k a x acc => .callP .pat fun p => mustC [45, 62] (.callE .seq fun y => mayC [124] fun b => if b = true then .callE (.armsL k a x (acc ++ [(p, y)])) .retE else mustC [101, 110, 100] (.retE (.mk k a [] 0 [] [] [x] (acc ++ [(p, y)]))))
 | .or => .callE .and fun a => .look fun t _ => mayC [124, 124] fun b => if b = true then .callE .or fun c => .retE (nodeE 22 t.at' [a, c]) else .retE a
 | .and => .callE .cmp fun a => .look fun t _ => mayC [38, 38] fun b => if b = true then .callE .and fun c => .retE (nodeE 21 t.at' [a, c]) else .retE a
 | .cmp => .callE .sum fun a => .look fun t ok => if isB t ok [[61], [60]] = true then .adv (.callE .sum fun c => .retE (opE (numberOf t.text) t.at' [a, c])) else .retE a
 | .sum => .callE .prod fun a => .callE (.sumL a) .retE
 | .sumL a => .look fun t ok => if isB t ok [[43], [45]] = true then .adv (.callE .prod fun c => .callE (.sumL (opE (numberOf t.text) t.at' [a, c])) .retE) else .retE a
 | .prod => .callE .unary fun a => .callE (.prodL a) .retE
 | .prodL a => .look fun t ok => if isB t ok [[42], [47], [37]] = true then .adv (.callE .unary fun c => .callE (.prodL (opE (numberOf t.text) t.at' [a, c])) .retE) else .retE a
 | .unary => .look fun t _ => mayC [45] fun b => if b = true then (.callE .unary fun x => .retE (opE 6 t.at' [x])) else
  mayC [110, 111, 116] fun b => if b = true then (.callE .unary fun x => .retE (opE 9 t.at' [x])) else .callE .app .retE
 | .app => .look fun t ok =>
  if (ok && t.k == 3) = true then .adv (.callE .post fun x => .retE (.mk 15 t.at' t.text 0 [] [] [x] []))
  else if (ok && t.k == 6 && decide (0 < (calledOf t.text).1)) = true then .adv (.callE (.opL (calledOf t.text).1 t.at' (calledOf t.text).2 []) .retE)
  else .callE .post fun a => .callE (.appL a) .retE
 | .opL n a m acc => match m with
  | 0 => .retE (opE n a acc)
  | m + 1 => .callE .post fun x => .callE (.opL n a m (acc ++ [x])) .retE
 | .appL a => .look fun t ok => if beginsB t ok = true then (.callE .post fun x => .callE (.appL (nodeE 8 a.at_ [a, x])) .retE) else .retE a
 | .post => .look fun t _ => mayC [33] fun b => if b = true then (.callE .post fun x => .retE (opE 11 t.at' [x])) else .callE .atom fun a => .callE (.postL a) .retE
 | .postL a => .look fun t ok => if isB t ok [[46]] = true then .adv (nameC fun nm => .callE (.postL (.mk 14 t.at' nm 0 [] [] [a] [])) .retE) else .retE a
 | .atom => .look fun t ok =>
  if (beginsB t ok && !isB t ok [[33]]) = true then .adv (
   if t.k = 1 then .retE (.mk 1 t.at' t.text 0 [] [] [] [])
   else if t.k = 2 then .retE (.mk 6 t.at' t.text 0 [] [] [] [])
   else if t.k = 4 then .retE (.mk 2 t.at' [] t.n [] [] [] [])
   else if t.k = 5 then .retE (.mk 3 t.at' [] 0 t.text [] [] [])
   else if t.text = [116, 114, 117, 101] then .retE (.mk 4 t.at' [] 1 [] [] [] [])
   else if t.text = [102, 97, 108, 115, 101] then .retE (.mk 4 t.at' [] 0 [] [] [] [])
   else if t.text = [123] then .callE (.braces t.at') .retE
   else mayC [41] fun b => if b = true then .retE (.mk 5 t.at' [] 0 [] [] [] []) else .callE .seq fun x => mustC [41] (.retE x))
  else .fail (.retE .zero)
 | .braces a => mayC [125] fun b => if b = true then .retE (.mk 12 a [] 0 [] [] [] []) else
  .ahead fun n => .look fun t ok => if (t.k == 1 && (n.k == 7 && n.text == [61])) = true then (if ok = true then .callE (.recL a [] []) .retE else mustC [125] (.retE (.mk 12 a [] 0 [] [] [] []))) else
   .callE .seq fun x => mustC [119, 105, 116, 104] (nameC fun nm => mustC [61] (.callE .seq fun y => mustC [125] (.retE (.mk 13 a nm 0 [] [] [x, y] []))))
 | .recL a ls args => nameC fun nm => mustC [61] (.callE .seq fun x => mayC [44] fun b => if b = true then .callE (.recL a (ls ++ [nm]) (args ++ [x])) .retE else mustC [125] (.retE (.mk 12 a [] 0 [] (ls ++ [nm]) (args ++ [x]) [])))
structure St where
 i : Nat
 ok : Bool
inductive Rs where
 | e (x : ExprT)
 | p (x : PatT)
def aheadT (ts : List Tok) (i : Nat) : Option Tok := ts[min (i + 1) (ts.length - 1)]?
inductive Run (ts : List Tok) : Cmd → St → Rs → St → Prop
 | retE {x st} : Run ts (.retE x) st (.e x) st
 | retP {x st} : Run ts (.retP x) st (.p x) st
 | look {k t st r st'} (h : ts[st.i]? = some t) (hk : Run ts (k t st.ok) st r st') : Run ts (.look k) st r st'
 | ahead {k t st r st'} (h : aheadT ts st.i = some t) (hk : Run ts (k t) st r st') : Run ts (.ahead k) st r st'
 | adv {k st r st'} (hk : Run ts k ⟨st.i + 1, st.ok⟩ r st') : Run ts (.adv k) st r st'
 | fail {k st r st'} (hk : Run ts k ⟨st.i, false⟩ r st') : Run ts (.fail k) st r st'
 | callE {nt k st x st1 r st'} (h : Run ts (body nt) st (.e x) st1) (hk : Run ts (k x) st1 r st') : Run ts (.callE nt k) st r st'
 | callP {nt k st x st1 r st'} (h : Run ts (bodyP nt) st (.p x) st1) (hk : Run ts (k x) st1 r st') : Run ts (.callP nt k) st r st'
theorem Run.det {ts : List Tok} {c : Cmd} {st : St} {r : Rs} {st' : St} (h : Run ts c st r st') : ∀ {r2 : Rs} {st2 : St}, Run ts c st r2 st2 → r2 = r ∧ st2 = st' := by
 induction h with
 | retE => intro r2 st2 h2; cases h2; exact ⟨rfl, rfl⟩
 | retP => intro r2 st2 h2; cases h2; exact ⟨rfl, rfl⟩
 | look h hk ih =>
  intro r2 st2 h2
  cases h2 with
  | look h' hk' => rw [h] at h'; cases h'; exact ih hk'
 | ahead h hk ih =>
  intro r2 st2 h2
  cases h2 with
  | ahead h' hk' => rw [h] at h'; cases h'; exact ih hk'
 | adv hk ih => intro r2 st2 h2; cases h2 with | adv hk' => exact ih hk'
 | fail hk ih => intro r2 st2 h2; cases h2 with | fail hk' => exact ih hk'
 | callE h hk ih1 ih2 =>
  intro r2 st2 h2
  cases h2 with
  | callE h' hk' =>
   obtain ⟨e1, e2⟩ := ih1 h'
   cases e1; cases e2
   exact ih2 hk'
 | callP h hk ih1 ih2 =>
  intro r2 st2 h2
  cases h2 with
  | callP h' hk' =>
   obtain ⟨e1, e2⟩ := ih1 h'
   cases e1; cases e2
   exact ih2 hk'
theorem Run.grows {ts : List Tok} {c : Cmd} {st : St} {r : Rs} {st' : St} (h : Run ts c st r st') : st.i ≤ st'.i ∧ (st'.ok = true → st.ok = true) := by
 induction h with
 | retE => exact ⟨Nat.le_refl _, id⟩
 | retP => exact ⟨Nat.le_refl _, id⟩
 | look h hk ih => exact ih
 | ahead h hk ih => exact ih
 | adv hk ih => exact ⟨Nat.le_trans (Nat.le_succ _) ih.1, ih.2⟩
 | fail hk ih => exact ⟨ih.1, fun h => by have := ih.2 h; cases this⟩
 | callE h hk ih1 ih2 => exact ⟨Nat.le_trans ih1.1 ih2.1, fun h => ih1.2 (ih2.2 h)⟩
 | callP h hk ih1 ih2 => exact ⟨Nat.le_trans ih1.1 ih2.1, fun h => ih1.2 (ih2.2 h)⟩
end Go.Proofs.YtpjkfeehgookkaaGreatDoor
namespace Go.Proofs.YtpjkfeehgookkaaGreatDoor
open Go.RowKit
def FpOf (v v' : Value) (B : Nat) : Prop := ∀ g, v'.ownBlock = some g → v.ownBlock = some g ∨ B ≤ g
section
variable {P : Program} (w : World)
theorem run_append_fp (t ty e : TypeId) (i : TypeInfo) (z : Value) (size bytes : Nat) (ht : P.underlying t = some (.slice e)) (hi : P.info? e = some i) (hz : i.zero = some z)
  (hsize : i.size = size) (hby : i.bytes = bytes) (hzs : z.cells.size = size) (hsz : 0 < size)
  (v : Value) (n : Nat) (xs : List Value) (hown : w.ownsRow 0 e size v n xs)
  (a : Addr) (m c : Nat) (news : List Value) (hl : news.length = m * size) (hnews : ∀ j u, news[j]? = some u → w.cell? (a.add j) = some u) (h1 : ∀ u ∈ news, u.oneCell' = true)
  (h63 : n + m ≤ maxLen) (hbytes : (n + m) * bytes ≤ 140737488355328) :
  ∃ v' w', (Builtin.append_ #[t, t] ty #[v, .slice (some a) m c]).run P w = .ok v' w' ∧ w'.ownsRow 0 e size v' (n + m) (xs ++ news) ∧ w.grownBy w' v.ownBlock ∧ FpOf v v' w.heap.size := by
 obtain ⟨v', w', hr, h2, h3, _⟩ := run_append_own (P := P) w 0 t ty e i z size bytes ht hi hz hsize hby hzs hsz v n xs hown a m c news hl hnews h1 h63 hbytes (Nat.zero_le _)
 refine ⟨v', w', hr, h2, h3, ?_⟩
 intro g' hg'
 rcases hown.2 with ⟨hv, hn⟩ | ⟨g, cap, cur, hv, _, hg, hnc, hcm, hcs, htake⟩
 ·have hown2 : w.ownsRow w.heap.size e size v n xs := ⟨hown.1, .inl ⟨hv, hn⟩⟩
  obtain ⟨v'', w'', hr', h2', _, _⟩ := run_append_own (P := P) w w.heap.size t ty e i z size bytes ht hi hz hsize hby hzs hsz v n xs hown2 a m c news hl hnews h1 h63 hbytes (Nat.le_refl _)
  rw [hr] at hr'
  cases hr'
  exact .inr (h2'.lt g' hg').1
 ·subst hv
  subst hsize
  subst hby
  have hsmall : n + m ≤ 9223372036854775807 := by simp only [maxLen] at h63; omega
  by_cases hroom : n + m ≤ cap
  ·have hfit : n * i.size + news.length ≤ cur.size := by rw [hl, hcs, ← Nat.add_mul]; exact Nat.mul_le_mul_right _ hroom
   have hr' := run_append_room (P := P) w t ty e i ht hi g n cap cur hg a m c news hl hnews h1 hroom hfit
   rw [hr] at hr'
   cases hr'
   exact .inl hg'
  ·have holds : ∀ j u, xs[j]? = some u → w.cell? ((⟨g, 0, none⟩ : Addr).add j) = some u := hown.cells (g := g) rfl
   have hr' := run_append_grow (P := P) w t ty e i z ht hi hz ⟨g, 0, none⟩ n cap xs hown.1 holds a m c news hl hnews (by omega) (by omega) (growslice_fits (by omega) hbytes)
   rw [hr] at hr'
   cases hr'
   simp only [Value.ownBlock, Option.some.injEq] at hg'
   exact .inr (by omega)
theorem wpList_append_fp {ops : Array Oper} {rest : List Oper} {o : Oper} {a : Act} {Q : Exit → Act → World → Prop} (hgd : o.guard = none) (s x : Operand) (t : TypeId)
  (ho : o.op = .call { callee := .builtin .append, args := #[s, x], argTypes := #[t, t] })
  (e : TypeId) (i : TypeInfo) (z : Value) (size bytes : Nat) (ht : P.underlying t = some (.slice e)) (hi : P.info? e = some i) (hz : i.zero = some z)
  (hsize : i.size = size) (hby : i.bytes = bytes) (hzs : z.cells.size = size) (hsz : 0 < size)
  (v : Value) (n : Nat) (xs : List Value) (hs : a.eval s = v) (hown : w.ownsRow 0 e size v n xs)
  (ad : Addr) (m c : Nat) (news : List Value) (hx : a.eval x = .slice (some ad) m c) (hl : news.length = m * size) (hnews : ∀ j u, news[j]? = some u → w.cell? (ad.add j) = some u) (h1 : ∀ u ∈ news, u.oneCell' = true)
  (h63 : n + m ≤ maxLen) (hbytes : (n + m) * bytes ≤ 140737488355328)
  (h : ∀ v' w', w'.ownsRow 0 e size v' (n + m) (xs ++ news) → w.grownBy w' v.ownBlock → FpOf v v' w.heap.size → wpList P ops Q rest (a.put o.dst v') w') : wpList P ops Q (o :: rest) a w := by
 refine wpList_plain hgd fun K hK => ?_
 obtain ⟨v', w', hr, h2, h3, h4⟩ := run_append_fp (P := P) w t o.type e i z size bytes ht hi hz hsize hby hzs hsz v n xs hown ad m c news hl hnews h1 h63 hbytes
 unfold Oper.wp execOp
 simp only [ho, resolve, invoke, builtin, Sem.run_bind, Sem.run_pure, Result.andThen_ok, List.map_toArray, List.map_cons, List.map_nil, hs, hx, hr]
 exact hK _ _ (h v' w' h2 h3 h4)
theorem run_append_fp_string (t u ty e : TypeId) (i : TypeInfo) (ht : P.underlying t = some (.slice e)) (hu : P.underlying u = some .string) (hi : P.info? e = some i) (hz : i.zero = some (.int .u8 0))
  (hsize : i.size = 1) (hby : i.bytes = 1)
  (v : Value) (n : Nat) (xs : List Value) (hown : w.ownsRow 0 e 1 v n xs) (s : ByteArray) (h63 : n + s.size ≤ maxLen) (hbytes : n + s.size ≤ 140737488355328) :
  ∃ v' w', (Builtin.append_ #[t, u] ty #[v, .string s]).run P w = .ok v' w' ∧ w'.ownsRow 0 e 1 v' (n + s.size) (xs ++ Lib.strCells s) ∧ w.grownBy w' v.ownBlock ∧ FpOf v v' w.heap.size := by
 obtain ⟨v', w', hr, h2, h3, _⟩ := Lib.run_append_own_string (P := P) w 0 t u ty e i ht hu hi hz hsize hby v n xs hown s h63 hbytes (Nat.zero_le _)
 refine ⟨v', w', hr, h2, h3, ?_⟩
 intro g' hg'
 rcases hown.2 with ⟨hv, hn⟩ | ⟨g, cap, cur, hv, _, hg, hnc, hcm, hcs, htake⟩
 ·have hown2 : w.ownsRow w.heap.size e 1 v n xs := ⟨hown.1, .inl ⟨hv, hn⟩⟩
  obtain ⟨v'', w'', hr', h2', _, _⟩ := Lib.run_append_own_string (P := P) w w.heap.size t u ty e i ht hu hi hz hsize hby v n xs hown2 s h63 hbytes (Nat.le_refl _)
  rw [hr] at hr'
  cases hr'
  exact .inr (h2'.lt g' hg').1
 ·subst hv
  have hsmall : n + s.size ≤ 9223372036854775807 := by simp only [maxLen] at h63; omega
  by_cases hroom : n + s.size ≤ cap
  ·have hr' := Lib.run_append_room_string (P := P) w t u ty e i ht hu hi hsize g n cap cur hg s hroom (by omega)
   rw [hr] at hr'
   cases hr'
   exact .inl hg'
  ·have holds : ∀ j u, xs[j]? = some u → w.cell? ((⟨g, 0, none⟩ : Addr).add j) = some u := hown.cells (g := g) rfl
   have hr' := Lib.run_append_grow_string (P := P) w t u ty e i (.int .u8 0) ht hu hi hz ⟨g, 0, none⟩ n cap xs (by rw [hsize]; exact hown.1) holds s (by omega) (by omega) (by rw [hby]; exact growslice_fits (by omega) (by omega))
   rw [hr] at hr'
   cases hr'
   simp only [Value.ownBlock, Option.some.injEq] at hg'
   exact .inr (by omega)
theorem wpList_append_fp_string {ops : Array Oper} {rest : List Oper} {o : Oper} {a : Act} {Q : Exit → Act → World → Prop} (hgd : o.guard = none) (sl x : Operand) (t u : TypeId)
  (ho : o.op = .call { callee := .builtin .append, args := #[sl, x], argTypes := #[t, u] })
  (e : TypeId) (i : TypeInfo) (ht : P.underlying t = some (.slice e)) (hu : P.underlying u = some .string) (hi : P.info? e = some i) (hz : i.zero = some (.int .u8 0))
  (hsize : i.size = 1) (hby : i.bytes = 1)
  (v : Value) (n : Nat) (xs : List Value) (hs : a.eval sl = v) (hown : w.ownsRow 0 e 1 v n xs) (s : ByteArray) (hx : a.eval x = .string s)
  (h63 : n + s.size ≤ maxLen) (hbytes : n + s.size ≤ 140737488355328)
  (h : ∀ v' w', w'.ownsRow 0 e 1 v' (n + s.size) (xs ++ Lib.strCells s) → w.grownBy w' v.ownBlock → FpOf v v' w.heap.size → wpList P ops Q rest (a.put o.dst v') w') : wpList P ops Q (o :: rest) a w := by
 refine wpList_plain hgd fun K hK => ?_
 obtain ⟨v', w', hr, h2, h3, h4⟩ := run_append_fp_string (P := P) w t u o.type e i ht hu hi hz hsize hby v n xs hown s h63 hbytes
 unfold Oper.wp execOp
 simp only [ho, resolve, invoke, builtin, Sem.run_bind, Sem.run_pure, Result.andThen_ok, List.map_toArray, List.map_cons, List.map_nil, hs, hx, hr]
 exact hK _ _ (h v' w' h2 h3 h4)
end
theorem ownsRow_fr {e : TypeId} {size n : Nat} {v : Value} {xs : List Value} {w w' : World} {L : List Nat} (h : w.ownsRow 0 e size v n xs) (hf : Fr L w w') (hL : ∀ g, v.ownBlock = some g → g ∉ L) : w'.ownsRow 0 e size v n xs := by
 refine ⟨h.1, ?_⟩
 rcases h.2 with hn | ⟨g, cap, cur, hv, hb, hg, rest⟩
 ·exact .inl hn
 ·exact .inr ⟨g, cap, cur, hv, hb, hf.keep hg (hL g (by rw [hv]; rfl)), rest⟩
theorem Fr.append {L : List Nat} {a w w' : World} {v : Value} (h : Fr L a w) (hg : w.grownBy w' v.ownBlock) (hv : ∀ g, v.ownBlock = some g → g ∈ L ∨ a.heap.size ≤ g) : Fr L a w' := h.grown hg hv
theorem strCells_list (s : ByteArray) : Lib.strCells s = Lib.byteCells s.data.toList := by simp [Lib.strCells, Lib.byteCells]
theorem u8_cell (c : UInt8) : Value.int .u8 (c.toNat : Int) = Value.int .u8 ((UInt8.ofNat c.toNat).toNat : Int) := by simp
theorem ofNat_toNat (c : Int) (h0 : 0 ≤ c) (h1 : c ≤ 255) : ((UInt8.ofNat c.toNat).toNat : Int) = c := by rw [UInt8.toNat_ofNat']; omega
section
variable {P : Program} {src dst e : TypeId} (hs : P.underlying src = some (.slice e)) (he : P.underlying e = some (.int .u8)) (hd : P.underlying dst = some .string)
include hs he hd
theorem run_bytes_one (w : World) (x : Int) (t : TypeId) : (convert src dst (.slice (some ⟨w.heap.size, 0, none⟩) 1 1)).run P (w.alloc (.cells #[.int .u8 x] t)) = .ok (.string ⟨[UInt8.ofNat x.toNat].toArray⟩) (w.alloc (.cells #[.int .u8 x] t)) := by
 refine run_convert_bytes_arg _ src e hs he w.heap.size 0 1 1 [x] rfl (fun i hi => ?_) dst hd
 have : i = 0 := by omega
 subst this
 rw [cell_of (heap_new w _)]; rfl
theorem run_bytes_two (w : World) (x y : Int) (t : TypeId) : (convert src dst (.slice (some ⟨w.heap.size, 0, none⟩) 2 2)).run P (w.alloc (.cells #[.int .u8 x, .int .u8 y] t)) = .ok (.string ⟨[UInt8.ofNat x.toNat, UInt8.ofNat y.toNat].toArray⟩) (w.alloc (.cells #[.int .u8 x, .int .u8 y] t)) := by
 refine run_convert_bytes_arg _ src e hs he w.heap.size 0 2 2 [x, y] rfl (fun i hi => ?_) dst hd
 have h : i = 0 ∨ i = 1 := by omega
 rcases h with rfl | rfl
 ·rw [cell_of (heap_new w _)]; rfl
 ·rw [cell_of (heap_new w _)]; rfl
theorem run_bytes_own (w : World) (E : TypeId) (v : Value) (l : List UInt8) (h : w.ownsRow 0 E 1 v l.length (Lib.byteCells l)) : (convert src dst v).run P w = .ok (.string ⟨l.toArray⟩) w := by
 rcases h.2 with ⟨rfl, h0⟩ | ⟨g, cap, cur, rfl, _⟩
 ·have hl : l = [] := List.eq_nil_of_length_eq_zero h0
  subst hl
  exact run_convert_bytes_nil w src e hs he 0 0 dst hd
 ·exact run_convert_bytes_back w src dst e ⟨g, 0, none⟩ cap l hs he hd (fun j hj => h.cells (g := g) rfl j _ (by simp [Lib.byteCells, hj]))
end
end Go.Proofs.YtpjkfeehgookkaaGreatDoor
namespace Go.Proofs.YtpjkfeehgookkaaGreatDoor
open Go.RowKit
def CellsAt (w : World) (g o : Nat) (cs : List Value) : Prop := ∀ (j : Nat) (v : Value), cs[j]? = some v → w.cell? ⟨g, o + j, none⟩ = some v
def SlAt (w : World) (ok : Nat → Prop) (v : Value) (n size : Nat) (cs : Nat → List Value) : Prop :=
 (∃ A c, v = .slice A 0 c ∧ n = 0) ∨ ∃ g o c, v = .slice (some ⟨g, o, none⟩) n c ∧ ok g ∧ g < w.heap.size ∧ ∀ i, i < n → (cs i).length = size ∧ CellsAt w g (o + i * size) (cs i)
theorem SlAt.form {w : World} {ok : Nat → Prop} {v : Value} {n size : Nat} {cs : Nat → List Value} (h : SlAt w ok v n size cs) : ∃ A c, v = .slice A n c := by
 rcases h with ⟨A, c, rfl, rfl⟩ | ⟨g, o, c, rfl, _⟩
 ·exact ⟨A, c, rfl⟩
 ·exact ⟨_, _, rfl⟩
theorem SlAt.len {w : World} {ok : Nat → Prop} {A : Option Addr} {m c n size : Nat} {cs : Nat → List Value} (h : SlAt w ok (.slice A m c) n size cs) : m = n := by
 obtain ⟨A', c', e⟩ := h.form
 cases e; rfl
theorem SlAt.row {w : World} {ok : Nat → Prop} {A : Option Addr} {n m c size : Nat} {cs : Nat → List Value} (h : SlAt w ok (.slice A m c) n size cs) {i : Nat} (hi : i < n) : ∃ g o, A = some ⟨g, o, none⟩ ∧ m = n ∧ g < w.heap.size ∧ ok g ∧ (cs i).length = size ∧ ∀ (j : Nat) (v : Value), (cs i)[j]? = some v → w.cell? ⟨g, o + i * size + j, none⟩ = some v := by
 rcases h with ⟨_, _, _, h⟩ | ⟨g, o, c', hv, hg, hgs, hcs⟩
 ·omega
 ·cases hv
  obtain ⟨h1, h2⟩ := hcs i hi
  exact ⟨g, o, rfl, rfl, hgs, hg, h1, h2⟩
def strC (s : List UInt8) : List Value := [.string ⟨s.toArray⟩]
inductive PatAt (w : World) (ok : Nat → Prop) : PatT → List Value → Prop
 | mk {k a nm n s ls args v5 v6} (c5 c6 : Nat → List Value) (h5 : SlAt w ok v5 ls.length 1 c5) (e5 : ∀ (i : Nat) (x : List UInt8), ls[i]? = some x → c5 i = strC x)
   (h6 : SlAt w ok v6 args.length 7 c6) (e6 : ∀ (i : Nat) (x : PatT), args[i]? = some x → PatAt w ok x (c6 i)) :
   PatAt w ok (.mk k a nm n s ls args) [.int .i64 k, .int .i64 a, .string ⟨nm.toArray⟩, .int .i64 n, .string ⟨s.toArray⟩, v5, v6]
inductive ExprAt (w : World) (ok : Nat → Prop) : ExprT → List Value → Prop
 | mk {k a nm n s ls args arms v5 v6 v7} (c5 c6 cp ce : Nat → List Value) (h5 : SlAt w ok v5 ls.length 1 c5) (e5 : ∀ (i : Nat) (x : List UInt8), ls[i]? = some x → c5 i = strC x)
   (h6 : SlAt w ok v6 args.length 8 c6) (e6 : ∀ (i : Nat) (x : ExprT), args[i]? = some x → ExprAt w ok x (c6 i))
   (h7 : SlAt w ok v7 arms.length 15 (fun i => cp i ++ ce i)) (e7 : ∀ (i : Nat) (p : PatT) (x : ExprT), arms[i]? = some (p, x) → PatAt w ok p (cp i)) (e8 : ∀ (i : Nat) (p : PatT) (x : ExprT), arms[i]? = some (p, x) → ExprAt w ok x (ce i)) :
   ExprAt w ok (.mk k a nm n s ls args arms) [.int .i64 k, .int .i64 a, .string ⟨nm.toArray⟩, .int .i64 n, .string ⟨s.toArray⟩, v5, v6, v7]
def Sh (w w' : World) (ok ok' : Nat → Prop) : Prop := ∀ b, ok b → b < w.heap.size → ok' b ∧ w'.heap[b]? = w.heap[b]? ∧ b < w'.heap.size
theorem SlAt.keep {w w' : World} {ok ok' : Nat → Prop} {v : Value} {n size : Nat} {cs : Nat → List Value} (h : SlAt w ok v n size cs) (hs : Sh w w' ok ok') : SlAt w' ok' v n size cs := by
 rcases h with h | ⟨g, o, c, rfl, hg, hlt, hc⟩
 ·exact .inl h
 ·obtain ⟨h1, h2, h3⟩ := hs g hg hlt
  refine .inr ⟨g, o, c, rfl, h1, h3, fun i hi => ⟨(hc i hi).1, fun j u hu => ?_⟩⟩
  rw [World.cell?_of_block (w := w) (w' := w') (a := ⟨g, o + i * size + j, none⟩) h2]
  exact (hc i hi).2 j u hu
theorem PatAt.keep {w w' : World} {ok ok' : Nat → Prop} {x : PatT} {cs : List Value} (h : PatAt w ok x cs) (hs : Sh w w' ok ok') : PatAt w' ok' x cs := by
 induction h with
 | mk c5 c6 h5 e5 h6 e6 ih => exact .mk c5 c6 (h5.keep hs) e5 (h6.keep hs) ih
theorem ExprAt.keep {w w' : World} {ok ok' : Nat → Prop} {x : ExprT} {cs : List Value} (h : ExprAt w ok x cs) (hs : Sh w w' ok ok') : ExprAt w' ok' x cs := by
 induction h with
 | mk c5 c6 cp ce h5 e5 h6 e6 h7 e7 e8 ih6 ih8 => exact .mk c5 c6 cp ce (h5.keep hs) e5 (h6.keep hs) ih6 (h7.keep hs) (fun i p x hi => (e7 i p x hi).keep hs) ih8
theorem SlAt.nil_ (w : World) (ok : Nat → Prop) (size : Nat) (cs : Nat → List Value) : SlAt w ok (.slice none 0 0) 0 size cs := .inl ⟨none, 0, rfl, rfl⟩
def flatN (cs : Nat → List Value) (n : Nat) : List Value := (List.range n).flatMap cs
theorem flatN_succ (cs : Nat → List Value) (n : Nat) : flatN cs (n + 1) = flatN cs n ++ cs n := by simp [flatN, List.range_succ]
theorem flatN_congr {cs ds : Nat → List Value} {n : Nat} (h : ∀ i, i < n → cs i = ds i) : flatN cs n = flatN ds n := by
 induction n with
 | zero => rfl
 | succ n ih => rw [flatN_succ, flatN_succ, ih (fun i hi => h i (by omega)), h n (by omega)]
theorem flatN_len {cs : Nat → List Value} {size n : Nat} (h : ∀ i, i < n → (cs i).length = size) : (flatN cs n).length = n * size := by
 induction n with
 | zero => simp [flatN]
 | succ n ih => rw [flatN_succ, List.length_append, ih (fun i hi => h i (by omega)), h n (by omega), Nat.succ_mul]
theorem flatN_at {cs : Nat → List Value} {size : Nat} : ∀ {n : Nat}, (∀ i, i < n → (cs i).length = size) → ∀ i, i < n → ∀ (j : Nat) (v : Value), (cs i)[j]? = some v → (flatN cs n)[i * size + j]? = some v
 | 0, _, i, hi, _, _, _ => by omega
 | n + 1, h, i, hi, j, v, hj => by
  have hl := flatN_len (n := n) (fun i hi => h i (by omega))
  have hjs : j < size := by rw [← h i hi]; exact (List.getElem?_eq_some_iff.1 hj).1
  rw [flatN_succ]
  by_cases e : i = n
  ·subst e
   rw [List.getElem?_append_right (by omega), hl, Nat.add_sub_cancel_left]
   exact hj
  ·have : i * size + j < n * size := by
    have := Nat.mul_le_mul_right size (show i + 1 ≤ n by omega)
    rw [Nat.succ_mul] at this
    omega
   rw [List.getElem?_append_left (by omega)]
   exact flatN_at (fun i hi => h i (by omega)) i (by omega) j v hj
section
variable {α : Type} (E : World → (Nat → Prop) → α → List Value → Prop)
def KeepsE : Prop := ∀ (w w' : World) (ok ok' : Nat → Prop) (x : α) (cs : List Value), E w ok x cs → Sh w w' ok ok' → E w' ok' x cs
structure RowG (T size : Nat) (w : World) (ok : Nat → Prop) (v : Value) (xs : List α) (cs : Nat → List Value) : Prop where
 own : w.ownsRow 0 T size v xs.length (flatN cs xs.length)
 len : ∀ i, i < xs.length → (cs i).length = size
 blk : ∀ g, v.ownBlock = some g → ok g
 all : ∀ (i : Nat) (x : α), xs[i]? = some x → E w (fun b => ok b ∧ v.ownBlock ≠ some b) x (cs i)
end
section
variable {α : Type} {E : World → (Nat → Prop) → α → List Value → Prop} {T size : Nat} {w w' : World} {ok ok' : Nat → Prop} {v : Value} {xs : List α} {cs : Nat → List Value}
theorem RowG.nil_ : RowG E T size w ok (.slice none 0 0) ([] : List α) cs := ⟨⟨by simp [flatN], .inl ⟨rfl, rfl⟩⟩, fun i hi => by simp at hi, fun g hg => by simp [Value.ownBlock] at hg, fun i x h => by simp at h⟩
theorem RowG.lit (hK : KeepsE E) {x : α} {c : List Value} (hx : E w ok x c) (hl : c.length = size) (hok : ok w.heap.size) :
  RowG E T size (w.alloc (.cells c.toArray T)) ok (.slice (some ⟨w.heap.size, 0, none⟩) 1 1) [x] (fun _ => c) := by
 refine ⟨?_, fun i hi => hl, fun g hg => ?_, fun i y hy => ?_⟩
 ·have := World.ownsRow_lit (base := 0) (e := T) (size := size) w c.toArray 1 (Nat.zero_le _) (by decide) (by simp [hl])
  simpa [flatN] using this
 ·simp [Value.ownBlock] at hg; subst hg; exact hok
 ·have hi : i = 0 := by
   rcases i with _ | i
   ·rfl
   ·simp at hy
  subst hi
  simp at hy
  subst hy
  refine hK _ _ _ _ _ _ hx (fun b hb hlt => ⟨⟨hb, by simp [Value.ownBlock]; omega⟩, Below.heap_alloc _ _ _ hlt, by simp; omega⟩)
theorem RowG.lit2 (hK : KeepsE E) {x y : α} {c d : List Value} (hx : E w ok x c) (hy : E w ok y d) (hc : c.length = size) (hd : d.length = size) (hok : ok w.heap.size) :
  RowG E T size (w.alloc (.cells (c ++ d).toArray T)) ok (.slice (some ⟨w.heap.size, 0, none⟩) 2 2) [x, y] (fun i => if i = 0 then c else d) := by
 refine ⟨?_, fun i hi => by split <;> assumption, fun g hg => ?_, fun i z hz => ?_⟩
 ·have := World.ownsRow_lit (base := 0) (e := T) (size := size) w (c ++ d).toArray 2 (Nat.zero_le _) (by decide) (by simp [hc, hd]; omega)
  simpa [flatN, List.range_succ] using this
 ·simp [Value.ownBlock] at hg; subst hg; exact hok
 ·have hs : Sh w (w.alloc (.cells (c ++ d).toArray T)) ok (fun b => ok b ∧ (Value.slice (some ⟨w.heap.size, 0, none⟩) 2 2).ownBlock ≠ some b) := fun b hb hlt => ⟨⟨hb, by simp [Value.ownBlock]; omega⟩, Below.heap_alloc _ _ _ hlt, by simp; omega⟩
  match i, hz with
  | 0, hz => simp at hz; subst hz; exact hK _ _ _ _ _ _ hx hs
  | 1, hz => simp at hz; subst hz; exact hK _ _ _ _ _ _ hy hs
  | i + 2, hz => simp at hz
theorem RowG.keep (hK : KeepsE E) (h : RowG E T size w ok v xs cs) (hs : Sh w w' ok ok') : RowG E T size w' ok' v xs cs := by
 obtain ⟨hown, hl, hb, ha⟩ := h
 refine ⟨⟨hown.1, ?_⟩, hl, fun g hg => ?_, fun i x hx => hK _ _ _ _ _ _ (ha i x hx) (fun b hb' hlt => ⟨⟨(hs b hb'.1 hlt).1, hb'.2⟩, (hs b hb'.1 hlt).2⟩)⟩
 ·rcases hown.2 with h | ⟨g, cap, cur, rfl, h1, h2, h3⟩
  ·exact .inl h
  ·have hlt : g < w.heap.size := (Array.getElem?_eq_some_iff.1 h2).1
   exact .inr ⟨g, cap, cur, rfl, h1, (hs g (hb g rfl) hlt).2.1.trans h2, h3⟩
 ·rcases hown.2 with ⟨rfl, _⟩ | ⟨g', cap, cur, rfl, h1, h2, h3⟩
  ·simp [Value.ownBlock] at hg
  ·simp [Value.ownBlock] at hg; subst hg
   exact (hs g' (hb g' rfl) (Array.getElem?_eq_some_iff.1 h2).1).1
theorem RowG.app (hK : KeepsE E) (h : RowG E T size w ok v xs cs) {x : α} {c : List Value} {okx : Nat → Prop} (hx : E w okx x c) (hl : c.length = size) (hav : ∀ b, okx b → b < w.heap.size → ok b ∧ v.ownBlock ≠ some b)
  {v' : Value} (hown : w'.ownsRow 0 T size v' (xs.length + 1) (flatN cs xs.length ++ c)) (hg : w.grownBy w' v.ownBlock) (hfp : FpOf v v' w.heap.size) (hnew : ∀ b, w.heap.size ≤ b → ok b) :
  RowG E T size w' ok v' (xs ++ [x]) (fun i => if i = xs.length then c else cs i) := by
 have hne : ∀ b, b < w.heap.size → v.ownBlock ≠ some b → v'.ownBlock ≠ some b := fun b hlt hn he => by
  rcases hfp b he with h1 | h1
  ·exact hn h1
  ·omega
 have hs : ∀ b, b < w.heap.size → v.ownBlock ≠ some b → w'.heap[b]? = w.heap[b]? ∧ b < w'.heap.size := fun b hlt hn => ⟨hg.block b hlt (fun e => hn e.symm), Nat.lt_of_lt_of_le hlt hg.size⟩
 refine ⟨?_, fun i hi => ?_, fun g hg' => ?_, fun i y hy => ?_⟩
 ·have e : flatN (fun i => if i = xs.length then c else cs i) (xs ++ [x]).length = flatN cs xs.length ++ c := by
   rw [List.length_append, List.length_singleton, flatN_succ, if_pos rfl]
   congr 1
   exact flatN_congr (fun i hi => by rw [if_neg (by omega)])
  rw [e, List.length_append, List.length_singleton]
  exact hown
 ·rw [List.length_append, List.length_singleton] at hi
  show (if i = xs.length then c else cs i).length = size
  split
  ·exact hl
  ·exact h.len i (by omega)
 ·rcases hfp g hg' with h1 | h1
  ·exact h.blk g h1
  ·exact hnew g h1
 ·show E w' _ y (if i = xs.length then c else cs i)
  by_cases e : i = xs.length
  ·subst e
   rw [if_pos rfl]
   simp at hy
   subst hy
   exact hK _ _ _ _ _ _ hx (fun b hb hlt => ⟨⟨(hav b hb hlt).1, hne b hlt (hav b hb hlt).2⟩, hs b hlt (hav b hb hlt).2⟩)
  ·rw [if_neg e]
   have hi : i < xs.length := by
    have := (List.getElem?_eq_some_iff.1 hy).1
    rw [List.length_append, List.length_singleton] at this
    omega
   rw [List.getElem?_append_left hi] at hy
   exact hK _ _ _ _ _ _ (h.all i y hy) (fun b hb hlt => ⟨⟨hb.1, hne b hlt hb.2⟩, hs b hlt hb.2⟩)
theorem RowG.sl (h : RowG E T size w ok v xs cs) : SlAt w ok v xs.length size cs := by
 have hown := h.own
 rcases hown.2 with ⟨h0, hn⟩ | ⟨g, cap, cur, rfl, _, h2, _, _, _, ht⟩
 ·exact .inl ⟨none, 0, h0, hn⟩
 ·refine .inr ⟨g, 0, cap, rfl, h.blk g rfl, (Array.getElem?_eq_some_iff.1 h2).1, fun i hi => ⟨h.len i hi, fun j u hu => ?_⟩⟩
  rw [Nat.zero_add]
  have hj : j < size := by rw [← h.len i hi]; exact (List.getElem?_eq_some_iff.1 hu).1
  have hb : i * size + j < xs.length * size := by
   have := Nat.mul_le_mul_right size (show i + 1 ≤ xs.length by omega)
   rw [Nat.succ_mul] at this
   omega
  rw [World.ownsRow.cellAt hown (i * size + j) hb]
  exact flatN_at h.len i hi j u hu
theorem RowG.el (hK : KeepsE E) (h : RowG E T size w ok v xs cs) (i : Nat) (x : α) (hi : xs[i]? = some x) : E w ok x (cs i) :=
 hK _ _ _ _ _ _ (h.all i x hi) (fun _ hb hlt => ⟨hb.1, rfl, hlt⟩)
end
theorem keepsE : KeepsE ExprAt := fun _ _ _ _ _ _ h hs => h.keep hs
theorem keepsP : KeepsE PatAt := fun _ _ _ _ _ _ h hs => h.keep hs
def StrE (_ : World) (_ : Nat → Prop) (s : List UInt8) (cs : List Value) : Prop := cs = strC s
theorem keepsS : KeepsE StrE := fun _ _ _ _ _ _ h _ => h
inductive ArmAt (w : World) (ok : Nat → Prop) : PatT × ExprT → List Value → Prop
 | mk {p x cp ce} (hp : PatAt w ok p cp) (hx : ExprAt w ok x ce) (hl : cp.length = 7) : ArmAt w ok (p, x) (cp ++ ce)
theorem keepsA : KeepsE ArmAt := fun _ _ _ _ _ _ h hs => by cases h with | mk hp hx hl => exact .mk (hp.keep hs) (hx.keep hs) hl
theorem PatAt.len {w : World} {ok : Nat → Prop} {x : PatT} {cs : List Value} (h : PatAt w ok x cs) : cs.length = 7 := by cases h; rfl
theorem ExprAt.len {w : World} {ok : Nat → Prop} {x : ExprT} {cs : List Value} (h : ExprAt w ok x cs) : cs.length = 8 := by cases h; rfl
abbrev RowE := RowG ExprAt 27 8
abbrev RowP := RowG PatAt 62 7
abbrev RowS := RowG StrE 9 1
abbrev RowA := RowG ArmAt 64 15
theorem ExprAt.of_rows {w : World} {ok : Nat → Prop} {k a : Int} {nm : List UInt8} {n : Int} {s : List UInt8} {ls : List (List UInt8)} {args : List ExprT} {arms : List (PatT × ExprT)} {v5 v6 v7 : Value} {c5 c6 c7 : Nat → List Value}
  (h5 : RowS w ok v5 ls c5) (h6 : RowE w ok v6 args c6) (h7 : RowA w ok v7 arms c7) :
  ExprAt w ok (.mk k a nm n s ls args arms) [.int .i64 k, .int .i64 a, .string ⟨nm.toArray⟩, .int .i64 n, .string ⟨s.toArray⟩, v5, v6, v7] := by
 have key : ∀ (i : Nat) (p : PatT) (x : ExprT), arms[i]? = some (p, x) → c7 i = (c7 i).take 7 ++ (c7 i).drop 7 ∧ PatAt w ok p ((c7 i).take 7) ∧ ExprAt w ok x ((c7 i).drop 7) := fun i p x hi => by
  have := h7.el keepsA i _ hi
  generalize c7 i = C at *
  cases this with
  | mk hp hx hl => exact ⟨by simp, by rw [← hl, List.take_left]; exact hp, by rw [← hl, List.drop_left]; exact hx⟩
 refine .mk c5 c6 (fun i => (c7 i).take 7) (fun i => (c7 i).drop 7) h5.sl (fun i x hi => h5.el keepsS i x hi) h6.sl (fun i x hi => h6.el keepsE i x hi) ?_ (fun i p x hi => (key i p x hi).2.1) (fun i p x hi => (key i p x hi).2.2)
 have := h7.sl
 simpa only [List.take_append_drop] using this
theorem PatAt.of_rows {w : World} {ok : Nat → Prop} {k a : Int} {nm : List UInt8} {n : Int} {s : List UInt8} {ls : List (List UInt8)} {args : List PatT} {v5 v6 : Value} {c5 c6 : Nat → List Value}
  (h5 : RowS w ok v5 ls c5) (h6 : RowP w ok v6 args c6) :
  PatAt w ok (.mk k a nm n s ls args) [.int .i64 k, .int .i64 a, .string ⟨nm.toArray⟩, .int .i64 n, .string ⟨s.toArray⟩, v5, v6] :=
 .mk c5 c6 h5.sl (fun i x hi => h5.el keepsS i x hi) h6.sl (fun i x hi => h6.el keepsP i x hi)
end Go.Proofs.YtpjkfeehgookkaaGreatDoor
namespace Go.Proofs.YtpjkfeehgookkaaGreatDoor
open Go.RowKit
def Bld (b : Nat) (own : Option Nat) (l : List UInt8) (w : World) : Prop :=
 ∃ p v, (p = .pointer none ∨ p = .pointer (some ⟨b, 0, none⟩)) ∧ w.heap[b]? = some (.cells #[p, v] 101 (0, 0)) ∧ w.ownsRow 0 5 1 v l.length (Lib.byteCells l) ∧ v.ownBlock = own
theorem Bld.fresh (w : World) : Bld w.heap.size none [] (w.alloc (.cells #[.pointer none, .slice none 0 0] 101)) :=
 ⟨_, _, .inl rfl, heap_new w _, World.ownsRow_nil _ _ _ _, rfl⟩
theorem Bld.own_ne {b : Nat} {own : Option Nat} {l : List UInt8} {w : World} (h : Bld b own l w) : own ≠ some b := by
 obtain ⟨p, v, _, hb, hown, rfl⟩ := h
 exact Lib.ownBlock_ne hown hb (by decide)
theorem Bld.lt {b : Nat} {own : Option Nat} {l : List UInt8} {w : World} (h : Bld b own l w) : b < w.heap.size := by
 obtain ⟨p, v, _, hb, _⟩ := h
 exact lt_of_heap hb
theorem Bld.own_lt {b : Nat} {own : Option Nat} {l : List UInt8} {w : World} (h : Bld b own l w) : ∀ g, own = some g → g < w.heap.size := by
 obtain ⟨p, v, _, hb, hown, rfl⟩ := h
 exact fun g hg => (hown.lt g hg).2
theorem Bld.keep {b : Nat} {own : Option Nat} {l : List UInt8} {w w' : World} {L : List Nat} (h : Bld b own l w) (hf : Fr L w w') (h1 : b ∉ L) (h2 : ∀ g, own = some g → g ∉ L) : Bld b own l w' := by
 obtain ⟨p, v, hp, hb, hown, ho⟩ := h
 refine ⟨p, v, hp, hf.keep hb h1, ⟨hown.1, ?_⟩, ho⟩
 rcases hown.2 with hn | ⟨g, cap, cur, hv, hb2, hg, rest⟩
 ·exact .inl hn
 ·exact .inr ⟨g, cap, cur, hv, hb2, hf.keep hg (h2 g (by rw [← ho, hv]; rfl)), rest⟩
theorem infoByte : (Tryz.prog.info? 5).map (fun i => (i.zero, i.size, i.bytes)) = some (some (.int .u8 0), 1, 1) := by kernel_rfl
theorem sizeBuilder : (Tryz.prog.info? 101).map (·.size) = some 2 := by kernel_rfl
theorem liesBuilder : liesAt Tryz.prog Tryz.prog.depth 101 (2 / Tryz.prog.cellsOf 101) 0 101 1 = true := by kernel_rfl
set_option maxHeartbeats 1000000 in
set_option maxRecDepth 100000 in
theorem copyCheck_used (b : Nat) (w : World) (h0 : w.cell? ⟨b, 0, none⟩ = some (.pointer (some ⟨b, 0, none⟩))) :
  Calls Tryz.prog 104 #[.pointer (some ⟨b, 0, none⟩)] w fun e w' => e = .returned (.tuple #[]) ∧ w = w' := by
 obtain ⟨j, hj, _⟩ := Option.map_eq_some_iff.1 sizeBuilder
 go_enter Tryz.func104, Tryz.ntmps104
 go_wp2
 rw [Lib.run_neq_ptr_same w _ Tryz.underlying99 hj]
 go_wp2
 go_end0
 exact ⟨rfl, rfl⟩
set_option maxHeartbeats 1000000 in
set_option maxRecDepth 100000 in
theorem copyCheck_fresh (b : Nat) (w : World) (h0 : w.cell? ⟨b, 0, none⟩ = some (.pointer none)) (hsh : w.shape? b = some (101, 2)) (hfz : w.frozen? ⟨b, 0, none⟩ = false) :
  Calls Tryz.prog 104 #[.pointer (some ⟨b, 0, none⟩)] w fun e w' => e = .returned (.tuple #[]) ∧ w' = w.setCell ⟨b, 0, none⟩ (.pointer (some ⟨b, 0, none⟩)) := by
 obtain ⟨j, hj, hjs⟩ := Option.map_eq_some_iff.1 sizeBuilder
 go_enter Tryz.func104, Tryz.ntmps104
 go_wp2
 rw [Lib.run_to_unsafe w ⟨b, 0, none⟩ Tryz.underlying99 Tryz.underlying138 hj (by rw [hjs]; decide) hsh (Nat.zero_lt_succ 1)]
 simp only [Result.andThen]
 rw [Oper.upon_value]
 go_wp2
 rw [run_callFunc_extern Tryz.func128 (by kernel_rfl) (by kernel_rfl) (by kernel_rfl) (e := Extern.AbiNoEscape.same) (by kernel_rfl)]
 rw [Lib.run_noEscape]
 simp only [Result.andThen]
 rw [Oper.upon_value]
 go_wp2
 rw [Lib.run_from_unsafe w ⟨b, 0, none⟩ Tryz.underlying138 Tryz.underlying99 hj hsh liesBuilder]
 simp only [Result.andThen]
 rw [Oper.upon_value]
 go_wp2
 go_end0
 exact ⟨rfl, rfl⟩
theorem copyCheck_any (b : Nat) (own : Option Nat) (l : List UInt8) (w : World) (h : Bld b own l w) :
  Calls Tryz.prog 104 #[.pointer (some ⟨b, 0, none⟩)] w fun e w' => e = .returned (.tuple #[]) ∧ (∃ v, w'.heap[b]? = some (.cells #[.pointer (some ⟨b, 0, none⟩), v] 101 (0, 0)) ∧ w'.ownsRow 0 5 1 v l.length (Lib.byteCells l) ∧ v.ownBlock = own) ∧ Fr [b] w w' := by
 have hne := h.own_ne
 obtain ⟨p, v, hp, hb, hown, ho⟩ := h
 rcases hp with rfl | rfl
 ·refine (copyCheck_fresh b w (by rw [cell_of hb]; rfl) (by simp [World.shape?, hb]) (frozen_of hb 0)).mono ?_
  rintro e w' ⟨rfl, rfl⟩
  refine ⟨rfl, ⟨v, by simp [World.setCell, Array.getElem?_modify, hb], ?_, ho⟩, (Fr.refl [b] w).setCell (p := ⟨b, 0, none⟩) (.inl (by simp)) _⟩
  exact hown.kept (row := some b) ⟨rfl, rfl, rfl, by simp [World.setCell], fun k _ hk => Below.heap_setCell _ _ _ _ (fun e => hk (by simp [e]))⟩ (Or.inr (by rw [ho]; exact hne))
 ·refine (copyCheck_used b w (by rw [cell_of hb]; rfl)).mono ?_
  rintro e w' ⟨rfl, rfl⟩
  exact ⟨rfl, ⟨v, hb, hown, ho⟩, Fr.refl _ _⟩
structure Wrote (b : Nat) (own : Option Nat) (l : List UInt8) (w w' : World) : Prop where
 out : ∃ own', Bld b own' l w' ∧ ∀ g, own' = some g → own = some g ∨ w.heap.size ≤ g
 fr : Fr (b :: own.toList) w w'
set_option maxHeartbeats 2000000 in
set_option maxRecDepth 100000 in
theorem WriteByte_any (b : Nat) (own : Option Nat) (l : List UInt8) (c : Int) (c0 : 0 ≤ c) (c1 : c ≤ 255) (w : World) (h : Bld b own l w) (hlen : l.length + 1 ≤ 140737488355328) :
  Calls Tryz.prog 76 #[.pointer (some ⟨b, 0, none⟩), .int .u8 c] w fun e w' => e = .returned .nilIface ∧ Wrote b own (l ++ [UInt8.ofNat c.toNat]) w w' := by
 obtain ⟨i0, hi, hz0, hz1, hz2⟩ := info_parts infoByte
 have hne := h.own_ne
 have hol := h.own_lt
 have hcell : Lib.byteCells (l ++ [UInt8.ofNat c.toNat]) = Lib.byteCells l ++ [.int .u8 c] := by
  have := ofNat_toNat c c0 c1
  simp only [Lib.byteCells, List.map_append, List.map_cons, List.map_nil, this]
 have Hc := Lib.hid hcell
 clear hcell
 go_enter Tryz.func76, Tryz.ntmps76
 go_wp2_with (go_at_call 104; refine (copyCheck_any b own l _ h).mono ?_)
 rintro e w1 ⟨rfl, ⟨v, hbk, hown, ho⟩, hf1⟩
 have HO := Lib.hid ho
 clear ho
 have d0 : w1.cell? ⟨b, 0, none⟩ = some (.pointer (some ⟨b, 0, none⟩)) := by rw [cell_of hbk]; rfl
 have d1 : w1.cell? ⟨b, 1, none⟩ = some v := by rw [cell_of hbk]; rfl
 go_wp2_with (at_builtin; refine wpList_append_fp _ rfl _ _ 82 rfl 5 i0 (.int .u8 0) 1 1 Tryz.underlying82 hi hz0 hz1 hz2 rfl (by decide) _ _ _ rfl (hown.alloc _) ⟨w1.heap.size, 0, none⟩ 1 1 [.int .u8 c] rfl rfl ?c1 ?c2 ?c3 ?c4 ?_)
 case c1 =>
  intro j u hj
  match j, hj with
  | 0, hj => simp at hj; subst hj; simp [Addr.add]
 case c2 => intro u hu; simp at hu; subst hu; rfl
 case c3 => unfold maxLen; omega
 case c4 => omega
 intro v' w2 hown' hgrow hfp
 have hlt : b < w1.heap.size := lt_of_heap hbk
 have hb2 : w2.heap[b]? = some (.cells #[.pointer (some ⟨b, 0, none⟩), v] 101 (0, 0)) := by
  rw [hgrow.block b (by simp; omega) (fun e => hne (by rw [← HO.out, ← e])), Lib.alloc_old w1 _ b hlt]
  exact hbk
 have e0 : w2.cell? ⟨b, 0, none⟩ = some (.pointer (some ⟨b, 0, none⟩)) := by rw [cell_of hb2]; rfl
 have e1 : w2.cell? ⟨b, 1, none⟩ = some v := by rw [cell_of hb2]; rfl
 have f1 : w2.frozen? ⟨b, 1, none⟩ = false := frozen_of hb2 1
 obtain ⟨g, cap, rfl⟩ : ∃ g cap, v' = .slice (some ⟨g, 0, none⟩) (l.length + 1) cap := by
  rcases hown'.2 with ⟨_, h0⟩ | ⟨g, cap, cur, hv, _⟩
  ·omega
  ·exact ⟨g, cap, hv⟩
 have hf2 : Fr (b :: own.toList) w w2 := by
  refine ((hf1.mono (L' := b :: own.toList) (fun x hx => .inl (by simp at hx; simp [hx]))).alloc (.cells #[.int .u8 c] 5)).append hgrow ?_
  intro g hg
  rw [HO.out] at hg
  exact .inl (by simp [hg])
 go_wp2
 go_ret
 have hown2 : w2.ownsRow 0 5 1 (.slice (some ⟨g, 0, none⟩) (l.length + 1) cap) (l.length + 1) (Lib.byteCells (l ++ [UInt8.ofNat c.toNat])) := by rw [Hc.out]; exact hown'
 have hgb : (Value.slice (some ⟨g, 0, none⟩) (l.length + 1) cap).ownBlock ≠ some b := Lib.ownBlock_ne hown2 hb2 (by decide)
 refine ⟨rfl, ⟨some g, ⟨_, .slice (some ⟨g, 0, none⟩) (l.length + 1) cap, .inr rfl, by simp [World.setCell, Array.getElem?_modify, hb2], ?_, rfl⟩, ?_⟩, ?_⟩
 ·have : (l ++ [UInt8.ofNat c.toNat]).length = l.length + 1 := by simp
  rw [this]
  exact hown2.kept (row := some b) ⟨rfl, rfl, rfl, by simp [World.setCell], fun k _ hk => Below.heap_setCell _ _ _ _ (fun e => hk (by simp [e]))⟩ (Or.inr hgb)
 ·intro g' hg'
  rcases hfp g' hg' with h1 | h1
  ·exact .inl (by rw [← HO.out, h1])
  ·refine .inr ?_
   have := hf1.size
   have h2 : (w1.alloc (.cells #[.int .u8 c] 5)).heap.size = w1.heap.size + 1 := by simp
   omega
 ·exact hf2.setCell (p := ⟨b, 1, none⟩) (.inl (by simp)) _
set_option maxHeartbeats 2000000 in
set_option maxRecDepth 100000 in
theorem WriteString_any (b : Nat) (own : Option Nat) (l : List UInt8) (s : ByteArray) (w : World) (h : Bld b own l w) (hlen : l.length + s.size ≤ 140737488355328) :
  Calls Tryz.prog 106 #[.pointer (some ⟨b, 0, none⟩), .string s] w fun e w' => e = .returned (.tuple #[.int .i64 s.size, .nilIface]) ∧ Wrote b own (l ++ s.data.toList) w w' := by
 obtain ⟨i0, hi, hz0, hz1, hz2⟩ := info_parts infoByte
 have hne := h.own_ne
 have hol := h.own_lt
 have hcell : Lib.byteCells (l ++ s.data.toList) = Lib.byteCells l ++ Lib.strCells s := by rw [strCells_list, Lib.byteCells_append]
 have Hc := Lib.hid hcell
 clear hcell
 go_enter Tryz.func106, Tryz.ntmps106
 go_wp2_with (go_at_call 104; refine (copyCheck_any b own l _ h).mono ?_)
 rintro e w1 ⟨rfl, ⟨v, hbk, hown, ho⟩, hf1⟩
 have HO := Lib.hid ho
 clear ho
 have d0 : w1.cell? ⟨b, 0, none⟩ = some (.pointer (some ⟨b, 0, none⟩)) := by rw [cell_of hbk]; rfl
 have d1 : w1.cell? ⟨b, 1, none⟩ = some v := by rw [cell_of hbk]; rfl
 go_wp2_with (at_builtin; refine wpList_append_fp_string _ rfl _ _ 82 9 rfl 5 i0 Tryz.underlying82 Tryz.underlying9 hi hz0 hz1 hz2 _ _ _ rfl hown s rfl ?c3 ?c4 ?_)
 case c3 => unfold maxLen; omega
 case c4 => omega
 intro v' w2 hown' hgrow hfp
 have hlt : b < w1.heap.size := lt_of_heap hbk
 have hb2 : w2.heap[b]? = some (.cells #[.pointer (some ⟨b, 0, none⟩), v] 101 (0, 0)) := by
  rw [hgrow.block b hlt (fun e => hne (by rw [← HO.out, ← e]))]
  exact hbk
 have e0 : w2.cell? ⟨b, 0, none⟩ = some (.pointer (some ⟨b, 0, none⟩)) := by rw [cell_of hb2]; rfl
 have e1 : w2.cell? ⟨b, 1, none⟩ = some v := by rw [cell_of hb2]; rfl
 have f1 : w2.frozen? ⟨b, 1, none⟩ = false := frozen_of hb2 1
 obtain ⟨ao, n', cap, hv'⟩ : ∃ ao n' cap, v' = .slice ao n' cap := by
  rcases hown'.2 with ⟨hv, _⟩ | ⟨g, cap, cur, hv, _⟩
  ·exact ⟨_, _, _, hv⟩
  ·exact ⟨_, _, _, hv⟩
 subst hv'
 have hf2 : Fr (b :: own.toList) w w2 := by
  refine (hf1.mono (L' := b :: own.toList) (fun x hx => .inl (by simp at hx; simp [hx]))).append hgrow ?_
  intro g hg
  rw [HO.out] at hg
  exact .inl (by simp [hg])
 go_wp2
 go_ret2
 have hown2 : w2.ownsRow 0 5 1 (.slice ao n' cap) (l.length + s.size) (Lib.byteCells (l ++ s.data.toList)) := by rw [Hc.out]; exact hown'
 have hgb : (Value.slice ao n' cap).ownBlock ≠ some b := Lib.ownBlock_ne hown2 hb2 (by decide)
 refine ⟨rfl, ⟨(Value.slice ao n' cap).ownBlock, ⟨_, .slice ao n' cap, .inr rfl, by simp [World.setCell, Array.getElem?_modify, hb2], ?_, rfl⟩, ?_⟩, ?_⟩
 ·have : (l ++ s.data.toList).length = l.length + s.size := by rw [List.length_append]; rfl
  rw [this]
  exact hown2.kept (row := some b) ⟨rfl, rfl, rfl, by simp [World.setCell], fun k _ hk => Below.heap_setCell _ _ _ _ (fun e => hk (by simp [e]))⟩ (Or.inr hgb)
 ·intro g' hg'
  rcases hfp g' hg' with h1 | h1
  ·exact .inl (by rw [← HO.out, h1])
  ·exact .inr (Nat.le_trans hf1.size h1)
 ·exact hf2.setCell (p := ⟨b, 1, none⟩) (.inl (by simp)) _
theorem String_any (B b : Nat) (own : Option Nat) (l : List UInt8) (w : World) (h : Bld b own l w) (hB : B ≤ b) (hO : ∀ g, own = some g → B ≤ g) :
  Calls Tryz.prog 78 #[.pointer (some ⟨b, 0, none⟩)] w fun e w' => e = .returned (.string ⟨l.toArray⟩) ∧ Below B w w' := by
 have hlt := h.lt
 have hne := h.own_ne
 refine Tryz.Builder_String_any B b l w ?_ (by omega)
 obtain ⟨p, v, hp, hb, hown, rfl⟩ := h
 have hown' : w.ownsRow B 5 1 v (Lib.byteCells l).length (Lib.byteCells l) := by
  rw [Lib.byteCells_length]
  refine ⟨hown.1, ?_⟩
  rcases hown.2 with hn | ⟨g, cap, cur, hv, _, rest⟩
  ·exact .inl hn
  ·exact .inr ⟨g, cap, cur, hv, hO g (by rw [hv]; rfl), rest⟩
 rcases hp with rfl | rfl
 ·exact .inl ⟨hB, v, hb, hown', hne⟩
 ·exact .inr ⟨hB, v, hb, hown', hne⟩
end Go.Proofs.YtpjkfeehgookkaaGreatDoor
namespace Go.Proofs.YtpjkfeehgookkaaGreatDoor
open Go.RowKit
structure Env (w : World) : Prop where
 size : Tryz.prog.globals.size ≤ w.heap.size
 tab : Lib.TabIs Tryz.prog w "internal/strconv.uint64pow10" .u64 Lib.pow10Tab
 rng : ∃ tp p, w.var? Tryz.prog "strconv.ErrRange" = some #[.iface tp p]
theorem gTab : Tryz.prog.globalNamed "internal/strconv.uint64pow10" = some 5 := by kernel_rfl
theorem gRng : Tryz.prog.globalNamed "strconv.ErrRange" = some 2 := by kernel_rfl
theorem nGlob : 5 < Tryz.prog.globals.size ∧ 2 < Tryz.prog.globals.size := by constructor <;> exact of_decide_eq_true (by kernel_rfl)
theorem Env.below {w w' : World} (h : Env w) (hb : Below w.heap.size w w') : Env w' := by
 obtain ⟨hs, ht, tp, p, hr⟩ := h
 exact ⟨Nat.le_trans hs hb.size, var?_below hb gTab (Nat.lt_of_lt_of_le nGlob.1 hs) ht, tp, p, var?_below hb gRng (Nat.lt_of_lt_of_le nGlob.2 hs) hr⟩
theorem Env.fr {w w' : World} (h : Env w) (hb : Fr [] w w') : Env w' := h.below hb.below0
theorem itoa_pos {n : Int} (h : 10 ≤ n) : Lib.itoa n = Lib.itoa (n / 10) ++ Lib.itoa (n % 10) := by
 unfold Lib.itoa
 rw [if_neg (by omega), if_neg (by omega), if_neg (by omega)]
 have e : (n / 10).toNat = n.toNat / 10 := by omega
 have e2 : (n % 10).toNat = n.toNat % 10 := by omega
 rw [Lib.decDigits, dif_neg (by omega), e, e2, Lib.decDigits.eq_1 (n.toNat % 10), dif_pos (by omega)]
theorem itoa_neg {n : Int} (h : n ≤ -10) : Lib.itoa n = Lib.itoa (n.tdiv 10) ++ Lib.itoa (-(n.tmod 10)) := by
 have e0 : n.tdiv 10 = -((-n) / 10) := by
  rw [← Int.neg_neg n, Int.neg_tdiv, Int.tdiv_eq_ediv_of_nonneg (by omega), Int.neg_neg]
 have e1 : n.tmod 10 = -((-n) % 10) := by
  rw [← Int.neg_neg n, Int.neg_tmod, Int.tmod_eq_emod_of_nonneg (by omega), Int.neg_neg]
 rw [e0, e1, Int.neg_neg]
 unfold Lib.itoa
 rw [if_pos (by omega), if_pos (by omega), if_neg (by omega)]
 have e : (-(-n / 10)).natAbs = n.natAbs / 10 := by omega
 have e2 : (-n % 10).toNat = n.natAbs % 10 := by omega
 rw [Lib.decDigits, dif_neg (by omega), e, e2, Lib.decDigits.eq_1 (n.natAbs % 10), dif_pos (by omega), List.cons_append]
theorem itoa_digit {n : Int} (h0 : 0 ≤ n) (h1 : n < 10) : Lib.itoa n = [UInt8.ofNat (48 + n.toNat)] := by
 unfold Lib.itoa
 rw [if_neg (by omega), Lib.decDigits, dif_pos (by omega)]
theorem itoa_minus {n : Int} (h0 : n < 0) : Lib.itoa n = 45 :: Lib.itoa (-n) := by
 unfold Lib.itoa
 rw [if_pos h0, if_neg (by omega)]
 have e : (-n).toNat = n.natAbs := by omega
 rw [e]
def RTextOk (n : Int) : Prop := ∀ w : World, Calls Tryz.prog 31 #[.int .i64 n] w fun e w' => e = .returned (.string ⟨(Lib.itoa n).toArray⟩) ∧ Fr [] w w'
set_option maxRecDepth 100000 in
theorem RText_digit (n : Int) (h0 : 0 ≤ n) (h1 : n < 10) : RTextOk n := by
 intro w
 rw [itoa_digit h0 h1]
 have e : (48 + n).toNat = 48 + n.toNat := by omega
 have hc := run_bytes_one Tryz.underlying82 Tryz.underlying5 Tryz.underlying9 w (48 + n) 5
 rw [e] at hc
 have d1 : decide (0 ≤ n) = true := decide_eq_true h0
 have d2 : decide (n < 10) = true := decide_eq_true h1
 clear e
 go_enter Tryz.func31, Tryz.ntmps31
 go_wp2_with fail
 go_ret
 exact ⟨by simp, (Fr.refl [] w).alloc _⟩
set_option maxRecDepth 100000 in
theorem RText_minus (n : Int) (h0 : n < 0) (h1 : -10 < n) : RTextOk n := by
 intro w
 have hd := Lib.hid (RText_digit (-n) (by omega) (by omega) w)
 have hl := Lib.itoa_length_le (-n) (by omega) (by omega)
 rw [itoa_minus h0]
 generalize Lib.itoa (-n) = l at *
 have d1 : decide (0 ≤ n) = false := decide_eq_false (by omega)
 have d2 : decide (n < 0) = true := decide_eq_true h0
 have d3 : decide (-10 < n) = true := decide_eq_true h1
 go_enter Tryz.func31, Tryz.ntmps31
 go_wp2_with fail
 refine hd.out.mono ?_
 rintro e w1 ⟨rfl, hf⟩
 go_wp2_with fail
 go_ret
 exact ⟨by simp [ByteArray.mk_append_mk], hf⟩
set_option maxRecDepth 100000 in
theorem RText_great (n : Int) (h0 : 10 ≤ n) (h1 : n ≤ 9223372036854775807) (ih : RTextOk (n / 10)) : RTextOk n := by
 intro w
 have hd := fun w => Lib.hid (RText_digit (n % 10) (by omega) (by omega) w)
 have hi := fun w => Lib.hid (ih w)
 have hl := Lib.itoa_length_le (n / 10) (by omega) (by omega)
 have hm := Lib.itoa_length_le (n % 10) (by omega) (by omega)
 have HI := Lib.hid hi
 have HD := Lib.hid hd
 clear hi hd
 rw [itoa_pos h0]
 generalize Lib.itoa (n / 10) = l at *
 generalize Lib.itoa (n % 10) = m at *
 have d1 : decide (0 ≤ n) = true := decide_eq_true (by omega)
 have d2 : decide (n < 10) = false := decide_eq_false (by omega)
 have d3 : decide (n < 0) = false := decide_eq_false (by omega)
 go_enter Tryz.func31, Tryz.ntmps31
 go_wp2_with fail
 refine (HI.out _).out.mono ?_
 rintro e w1 ⟨rfl, hf⟩
 go_wp2_with fail
 refine (HD.out _).out.mono ?_
 rintro e w2 ⟨rfl, hf2⟩
 go_wp2_with fail
 go_ret
 exact ⟨by simp [ByteArray.mk_append_mk], hf.trans hf2⟩
set_option maxRecDepth 100000 in
theorem RText_least (n : Int) (h0 : n ≤ -10) (h1 : -9223372036854775808 ≤ n) (ih : RTextOk (n.tdiv 10)) : RTextOk n := by
 intro w
 have e0 : n.tdiv 10 = -((-n) / 10) := by
  rw [← Int.neg_neg n, Int.neg_tdiv, Int.tdiv_eq_ediv_of_nonneg (by omega), Int.neg_neg]
 have e1 : n.tmod 10 = -((-n) % 10) := by
  rw [← Int.neg_neg n, Int.neg_tmod, Int.tmod_eq_emod_of_nonneg (by omega), Int.neg_neg]
 have hd := fun w => Lib.hid (RText_digit (-(n.tmod 10)) (by omega) (by omega) w)
 have hi := fun w => Lib.hid (ih w)
 have hl := Lib.itoa_length_le (n.tdiv 10) (by omega) (by omega)
 have hm := Lib.itoa_length_le (-(n.tmod 10)) (by omega) (by omega)
 have HI := Lib.hid hi
 have HD := Lib.hid hd
 have b0 : -9 ≤ n.tmod 10 := by omega
 have b1 : n.tmod 10 ≤ 0 := by omega
 clear hi hd e0 e1
 rw [itoa_neg h0]
 generalize Lib.itoa (n.tdiv 10) = l at *
 generalize Lib.itoa (-(n.tmod 10)) = m at *
 have d1 : decide (0 ≤ n) = false := decide_eq_false (by omega)
 have d2 : decide (n < 0) = true := decide_eq_true (by omega)
 have d3 : decide (-10 < n) = false := decide_eq_false (by omega)
 go_enter Tryz.func31, Tryz.ntmps31
 go_wp2_with fail
 refine (HI.out _).out.mono ?_
 rintro e w1 ⟨rfl, hf⟩
 go_wp2_with fail
 refine (HD.out _).out.mono ?_
 rintro e w2 ⟨rfl, hf2⟩
 go_wp2_with fail
 go_ret
 exact ⟨by simp [ByteArray.mk_append_mk], hf.trans hf2⟩
theorem RText_all : ∀ (k : Nat) (n : Int), n.natAbs ≤ k → -9223372036854775808 ≤ n → n ≤ 9223372036854775807 → RTextOk n
 | 0, n, hk, h0, h1 => RText_digit n (by omega) (by omega)
 | k + 1, n, hk, h0, h1 => by
  by_cases a : 10 ≤ n
  ·exact RText_great n a h1 (RText_all k (n / 10) (by omega) (by omega) (by omega))
  ·by_cases b : n ≤ -10
   ·have e0 : n.tdiv 10 = -((-n) / 10) := by
     rw [← Int.neg_neg n, Int.neg_tdiv, Int.tdiv_eq_ediv_of_nonneg (by omega), Int.neg_neg]
    exact RText_least n b h0 (RText_all k (n.tdiv 10) (by omega) (by omega) (by omega))
   ·by_cases c : 0 ≤ n
    ·exact RText_digit n c (by omega)
    ·exact RText_minus n (by omega) (by omega)
theorem RText_any (n : Int) (h0 : -9223372036854775808 ≤ n) (h1 : n ≤ 9223372036854775807) (w : World) :
  Calls Tryz.prog 31 #[.int .i64 n] w fun e w' => e = .returned (.string ⟨(Lib.itoa n).toArray⟩) ∧ Fr [] w w' :=
 RText_all n.natAbs n (Nat.le_refl _) h0 h1 w
end Go.Proofs.YtpjkfeehgookkaaGreatDoor
namespace Go.Proofs.YtpjkfeehgookkaaGreatDoor
open Go.RowKit
theorem Trim_digits (s : ByteArray) (hs : s.size ≤ 9223372036854775807) (w : World) :
  Calls Tryz.prog 74 #[.string s, .string ⟨#[48, 49, 50, 51, 52, 53, 54, 55, 56, 57]⟩] w fun e w' => e = .returned (.string ⟨(Lib.trimS s.data.toList digitsB).toArray⟩) ∧ Fr [] w w' :=
 (Any.strings_Trim_laid Tryz.lays160 (by kernel_rfl) s ⟨#[48, 49, 50, 51, 52, 53, 54, 55, 56, 57]⟩ w hs (by decide) (ascii_of_all (by decide))).mono fun _ _ ⟨he, hb⟩ => ⟨he, Fr.of_below hb⟩
theorem head_byte (s : ByteArray) (h : 0 < s.size) : s.data.toList.head? = some s[0] := by
 rw [List.head?_eq_getElem?, List.getElem?_eq_getElem (by simpa using h)]
 rfl
theorem not_numeral {s : ByteArray} (h : s.toList = [] ∨ (∃ h0 : 0 < s.size, ((s[0].toNat : Nat) : Int) = 48 ∧ 1 < (s.size : Int)) ∨ ¬ s.data.toList.all isDig = true) : readN s.data.toList = 0 ∧ readE s.data.toList = 5 := by
 have hn : numeral s.data.toList = false := by
  unfold numeral
  rcases h with h | ⟨h0, h48, h1⟩ | h
  ·rw [Lib.toList_data] at h
   simp [h]
  ·have hh := head_byte s h0
   have e48 : s[0] = 48 := by
    have : s[0].toNat = (48 : UInt8).toNat := by
     have : (48 : UInt8).toNat = 48 := rfl
     omega
    exact UInt8.toNat_inj.1 this
   have hl : 1 < s.data.toList.length := by have := size_list s; omega
   rw [hh, e48]
   simp only [beq_self_eq_true, Bool.true_and, decide_eq_true hl, Bool.or_true, Bool.true_or, Bool.not_true]
  ·have : s.data.toList.all isDig = false := by simpa using h
   rw [this]
   simp only [Bool.not_false, Bool.or_true, Bool.not_true]
 unfold readN readE
 rw [hn]
 simp
theorem is_numeral {s : ByteArray} (h : ¬ s.toList = []) (h1 : ∀ h0 : 0 < s.size, ((s[0].toNat : Nat) : Int) = 48 → (s.size : Int) ≤ 1) (hd : s.data.toList.all isDig = true) : numeral s.data.toList = true := by
 rw [Lib.toList_data] at h
 have h0 : 0 < s.size := by
  rcases Nat.eq_zero_or_pos s.size with h' | h'
  ·exact absurd (List.eq_nil_of_length_eq_zero (by rw [size_list]; exact h')) h
  ·exact h'
 unfold numeral
 rw [hd, head_byte s h0]
 have hne : s.data.toList.isEmpty = false := by simpa using h
 rw [hne]
 have : (some s[0] == some (48 : UInt8) && decide (1 < s.data.toList.length)) = false := by
  by_cases e : s[0] = 48
  ·have := h1 h0 (by rw [e]; rfl)
   have h2 : ¬ 1 < s.data.toList.length := by rw [size_list]; omega
   rw [decide_eq_false h2, Bool.and_false]
  ·have : (some s[0] == some (48 : UInt8)) = false := by simpa using e
   rw [this, Bool.false_and]
 rw [this]
 rfl
theorem parse_numeral {l : List UInt8} (h : numeral l = true) : Lib.parseIntB 64 l = if valD 0 l ≤ 9223372036854775807 then .ok (valD 0 l : Int) else .range := by
 unfold numeral at h
 simp only [Bool.not_eq_true', Bool.or_eq_false_iff] at h
 obtain ⟨⟨hne, _⟩, hd⟩ := h
 have hd' : l.all isDig = true := by simpa using hd
 cases l with
 | nil => simp at hne
 | cons c r =>
  have hc : isDig c = true := by
   simp only [List.all_cons, Bool.and_eq_true] at hd'
   exact hd'.1
  have hc' := (isDig_iff c).1 hc
  unfold Lib.parseIntB
  have e1 : ¬ (c.toNat = 43 ∨ c.toNat = 45) := by omega
  have e2 : ¬ c.toNat = 45 := by omega
  simp only [if_neg e1]
  have hp : Lib.parseUintB 64 (c :: r) = Lib.parseUintM (2 ^ 64 - 1) 0 (c :: r) := by unfold Lib.parseUintB; rw [if_neg (by simp)]
  rw [hp, parseUintM_dig _ (by decide) _ 0 (Nat.zero_le _) hd']
  generalize valD 0 (c :: r) = v
  by_cases hv : v ≤ 2 ^ 64 - 1
  ·rw [if_pos hv]
   by_cases hw : v ≤ 9223372036854775807
   ·rw [if_pos hw]
    show (if ¬ c.toNat = 45 ∧ 2 ^ (64 - 1) ≤ v then Lib.NumEnd.range else if c.toNat = 45 ∧ 2 ^ (64 - 1) < v then Lib.NumEnd.range else Lib.NumEnd.ok (if c.toNat = 45 then -(v : Int) else v)) = _
    rw [if_neg (by omega), if_neg (by omega), if_neg e2]
   ·rw [if_neg hw]
    show (if ¬ c.toNat = 45 ∧ 2 ^ (64 - 1) ≤ v then Lib.NumEnd.range else if c.toNat = 45 ∧ 2 ^ (64 - 1) < v then Lib.NumEnd.range else Lib.NumEnd.ok (if c.toNat = 45 then -(v : Int) else v)) = _
    rw [if_pos (by omega)]
  ·rw [if_neg hv, if_neg (by omega)]
theorem read_ok {l : List UInt8} (h : numeral l = true) (hv : valD 0 l ≤ 4611686018427387903) : readN l = valD 0 l ∧ readE l = 0 := by
 unfold readN readE; rw [if_pos ⟨h, hv⟩, if_pos h, if_pos hv]; exact ⟨rfl, rfl⟩
theorem read_range {l : List UInt8} (h : numeral l = true) (hv : ¬ valD 0 l ≤ 4611686018427387903) : readN l = 0 ∧ readE l = 2 := by
 unfold readN readE; rw [if_neg (fun h' => hv h'.2), if_pos h, if_neg hv]; exact ⟨rfl, rfl⟩
set_option maxHeartbeats 400000 in
set_option maxRecDepth 100000 in
theorem Read_not (s : ByteArray) (hs : s.size ≤ 281474976710656) (w : World)
  (hn : s.toList = [] ∨ (∃ h0 : 0 < s.size, ((s[0].toNat : Nat) : Int) = 48 ∧ 1 < (s.size : Int)) ∨ ¬ s.data.toList.all isDig = true) :
  Calls Tryz.prog 46 #[.string s] w fun e w' => e = .returned (.tuple #[.int .i64 0, .int .i64 5]) ∧ Fr [] w w' := by
 have HT := Lib.hid (Trim_digits s (by omega) w)
 have hiff := trimS_digits s.data.toList
 generalize Lib.trimS s.data.toList digitsB = t at *
 by_cases he : s.toList = []
 ·clear hiff hn
  go_enter Tryz.func46, Tryz.ntmps46
  go_wp2_with fail
  go_ret2
  exact ⟨rfl, Fr.refl _ _⟩
 ·have h0 : 0 < s.size := by
   rcases Nat.eq_zero_or_pos s.size with h' | h'
   ·exact absurd (by rw [Lib.toList_data]; exact List.eq_nil_of_length_eq_zero (by rw [size_list]; exact h')) he
   ·exact h'
  have b1 : s.toList.isEmpty = false := by simpa using he
  by_cases z1 : ((s[0].toNat : Nat) : Int) = 48
  ·have c1 : (((s[0].toNat : Nat) : Int) == 48) = true := by simpa using z1
   by_cases z2 : 1 < (s.size : Int)
   ·have c2 : decide (1 < (s.size : Int)) = true := decide_eq_true z2
    clear hiff hn he z1 z2
    go_enter Tryz.func46, Tryz.ntmps46
    go_wp2_with fail
    go_ret2
    exact ⟨rfl, Fr.refl _ _⟩
   ·have c2 : decide (1 < (s.size : Int)) = false := decide_eq_false z2
    have htne : t ≠ [] := by
     intro h
     rcases hn with hn | ⟨_, hn⟩ | hn
     ·exact he hn
     ·exact z2 hn.2
     ·exact hn (hiff.1 h)
    have c3 : t.isEmpty = false := by simpa using htne
    clear hiff hn he z1 z2 htne
    go_enter Tryz.func46, Tryz.ntmps46
    go_wp2_with fail
    refine HT.out.mono ?_
    rintro e w1 ⟨rfl, hf⟩
    go_wp2_with fail
    go_ret2
    exact ⟨rfl, hf⟩
  ·have c1 : (((s[0].toNat : Nat) : Int) == 48) = false := by simpa using z1
   have htne : t ≠ [] := by
    intro h
    rcases hn with hn | ⟨_, hn⟩ | hn
    ·exact he hn
    ·exact z1 hn.1
    ·exact hn (hiff.1 h)
   have c3 : t.isEmpty = false := by simpa using htne
   clear hiff hn he z1 htne
   go_enter Tryz.func46, Tryz.ntmps46
   go_wp2_with fail
   refine HT.out.mono ?_
   rintro e w1 ⟨rfl, hf⟩
   go_wp2_with fail
   go_ret2
   exact ⟨rfl, hf⟩
theorem bytesWorld_fr {w w' : World} {T : TypeId} (h : w' = w ∨ ∃ t, w' = Lib.bytesWorld w T t) : Fr [] w w' := by
 rcases h with rfl | ⟨t, rfl⟩
 ·exact Fr.refl _ _
 ·exact Fr.of_below (Lib.bytesWorld_below _ _ _)
set_option maxHeartbeats 400000 in
set_option maxRecDepth 100000 in
theorem Read_num (s : ByteArray) (hs : s.size ≤ 281474976710656) (w : World) (hE : Env w) (he : ¬ s.toList = [])
  (h1 : ∀ h0 : 0 < s.size, ((s[0].toNat : Nat) : Int) = 48 → (s.size : Int) ≤ 1) (hd : s.data.toList.all isDig = true) :
  Calls Tryz.prog 46 #[.string s] w fun e w' => e = .returned (.tuple #[.int .i64 (readN s.data.toList), .int .i64 (readE s.data.toList)]) ∧ Fr [] w w' := by
 have hnum := is_numeral he h1 hd
 have hp := parse_numeral hnum
 have HT := Lib.hid (Trim_digits s (by omega) w)
 rw [(trimS_digits s.data.toList).2 hd] at HT
 have h0 : 0 < s.size := by
  rcases Nat.eq_zero_or_pos s.size with h' | h'
  ·exact absurd (by rw [Lib.toList_data]; exact List.eq_nil_of_length_eq_zero (by rw [size_list]; exact h')) he
  ·exact h'
 have b1 : s.toList.isEmpty = false := by simpa using he
 have key : (((s[0].toNat : Nat) : Int) == 48) = false ∨ ((((s[0].toNat : Nat) : Int) == 48) = true ∧ decide (1 < (s.size : Int)) = false) := by
  by_cases z1 : ((s[0].toNat : Nat) : Int) = 48
  ·exact .inr ⟨by simpa using z1, decide_eq_false (by have := h1 h0 z1; omega)⟩
  ·exact .inl (by simpa using z1)
 clear h1 hd he
 by_cases hv : valD 0 s.data.toList ≤ 9223372036854775807
 ·rw [if_pos hv] at hp
  have HP := Lib.hid (fun W : World => Lib.hid (Tryz.strconv_ParseInt_10_at64_ok s (by omega) _ hp W))
  have hle : (0 : Int) ≤ (valD 0 s.data.toList : Int) := by omega
  by_cases hm : valD 0 s.data.toList ≤ 4611686018427387903
  ·obtain ⟨r1, r2⟩ := read_ok hnum hm
   rw [r1, r2]
   have c4 : decide (4611686018427387903 < (valD 0 s.data.toList : Int)) = false := decide_eq_false (by omega)
   generalize ((valD 0 s.data.toList : Nat) : Int) = v at *
   clear hp hnum hv hm r1 r2 hle
   rcases key with c1 | ⟨c1, c2⟩
   all_goals
    go_enter Tryz.func46, Tryz.ntmps46
    go_wp2_with fail
    refine HT.out.mono ?_
    rintro e w1 ⟨rfl, hf⟩
    go_wp2_with fail
    refine (HP.out _).out.mono ?_
    rintro e w2 ⟨rfl, hw⟩
    have hf2 := bytesWorld_fr hw
    clear hw
    go_wp2_with fail
    go_ret2
    exact ⟨rfl, hf.trans hf2⟩
  ·obtain ⟨r1, r2⟩ := read_range hnum hm
   rw [r1, r2]
   have c4 : decide (4611686018427387903 < (valD 0 s.data.toList : Int)) = true := decide_eq_true (by omega)
   generalize ((valD 0 s.data.toList : Nat) : Int) = v at *
   clear hp hnum hv hm r1 r2 hle
   rcases key with c1 | ⟨c1, c2⟩
   all_goals
    go_enter Tryz.func46, Tryz.ntmps46
    go_wp2_with fail
    refine HT.out.mono ?_
    rintro e w1 ⟨rfl, hf⟩
    go_wp2_with fail
    refine (HP.out _).out.mono ?_
    rintro e w2 ⟨rfl, hw⟩
    have hf2 := bytesWorld_fr hw
    clear hw
    go_wp2_with fail
    go_ret2
    exact ⟨rfl, hf.trans hf2⟩
 ·rw [if_neg hv] at hp
  have HP := Lib.hid (fun (W : World) (hW : Env W) => Lib.hid (Tryz.strconv_ParseInt_10_at64_range_var s hs hp hW.rng.choose hW.rng.choose_spec.choose W hW.rng.choose_spec.choose_spec))
  obtain ⟨r1, r2⟩ := read_range hnum (by omega)
  rw [r1, r2]
  clear hp hnum hv r1 r2
  rcases key with c1 | ⟨c1, c2⟩
  all_goals
   go_enter Tryz.func46, Tryz.ntmps46
   go_wp2_with fail
   refine HT.out.mono ?_
   rintro e w1 ⟨rfl, hf⟩
   go_wp2_with fail
   refine (HP.out _ (hE.fr hf)).out.mono ?_
   rintro e w2 ⟨N, rfl, _, _, hw⟩
   have hf2 := Fr.of_below hw
   clear hw
   go_wp2_with fail
   go_ret2
   exact ⟨rfl, hf.trans hf2⟩
theorem Read_any (s : ByteArray) (hs : s.size ≤ 281474976710656) (w : World) (hE : Env w) :
  Calls Tryz.prog 46 #[.string s] w fun e w' => e = .returned (.tuple #[.int .i64 (readN s.data.toList), .int .i64 (readE s.data.toList)]) ∧ Fr [] w w' := by
 by_cases hn : s.toList = [] ∨ (∃ h0 : 0 < s.size, ((s[0].toNat : Nat) : Int) = 48 ∧ 1 < (s.size : Int)) ∨ ¬ s.data.toList.all isDig = true
 ·obtain ⟨r1, r2⟩ := not_numeral hn
  rw [r1, r2]
  exact Read_not s hs w hn
 ·simp only [not_or] at hn
  refine Read_num s hs w hE hn.1 (fun h0 h48 => ?_) (Classical.not_not.1 hn.2.2)
  rcases Int.lt_or_le 1 (s.size : Int) with h | h
  ·exact absurd ⟨h0, h48, h⟩ hn.2.1
  ·exact h
end Go.Proofs.YtpjkfeehgookkaaGreatDoor
namespace Go.Proofs.YtpjkfeehgookkaaGreatDoor
open Go.RowKit
theorem take_snoc (s : ByteArray) (k : Nat) (h : k < s.size) : s.data.toList.take (k + 1) = s.data.toList.take k ++ [s[k]] := by
 rw [List.take_succ_eq_append_getElem (by simpa using h)]; rfl
end Go.Proofs.YtpjkfeehgookkaaGreatDoor
namespace Go.Proofs.YtpjkfeehgookkaaGreatDoor
open Go.RowKit
theorem quo_str (c : UInt8) : quo c = if ((c.toNat : Nat) : Int) = 34 then [92, 34] else if ((c.toNat : Nat) : Int) = 92 then [92, 92] else if ((c.toNat : Nat) : Int) = 10 then [92, 110]
  else if 32 ≤ ((c.toNat : Nat) : Int) ∧ ((c.toNat : Nat) : Int) ≤ 126 then [c] else [92, 120, hexD (c.toNat / 16), hexD (c.toNat % 16)] := by
 have e : ∀ k : UInt8, (c = k) ↔ ((c.toNat : Nat) : Int) = ((k.toNat : Nat) : Int) := fun k => ⟨fun h => by rw [h], fun h => UInt8.toNat_inj.1 (by omega)⟩
 have e1 := e 34; have e2 := e 92; have e3 := e 10
 have n1 : (((34 : UInt8).toNat : Nat) : Int) = 34 := rfl
 have n2 : (((92 : UInt8).toNat : Nat) : Int) = 92 := rfl
 have n3 : (((10 : UInt8).toNat : Nat) : Int) = 10 := rfl
 rw [n1] at e1; rw [n2] at e2; rw [n3] at e3
 unfold quo
 simp only [e1, e2, e3]
 have e4 : (32 ≤ c.toNat ∧ c.toNat ≤ 126) ↔ (32 ≤ ((c.toNat : Nat) : Int) ∧ ((c.toNat : Nat) : Int) ≤ 126) := by omega
 simp only [e4]
theorem hex_at (k : Nat) (h : k < 16) : hexB[k]? = some (hexD k) := by
 unfold hexD
 rw [List.getD_eq_getElem?_getD]
 have : k < hexB.length := h
 rw [List.getElem?_eq_getElem this]
 rfl
theorem run_index_at {P : Program} {T : TypeId} (hT : P.underlying T = some .string) (s : ByteArray) (K : IntKind) (i : Int) (k : Nat) (hi : i = k) (b : UInt8) (hb : s.data.toList[k]? = some b) (W : World) :
  (Instr.index T (.string s) (.int K i)).run P W = .ok (.int .u8 (b.toNat : Int)) W := by
 subst hi
 have h0 : s[k]? = some b := by
  have hk : k < s.data.toList.length := (List.getElem?_eq_some_iff.1 hb).1
  have hk' : k < s.size := by rw [size_list] at hk; exact hk
  rw [getElem?_pos s k hk']
  have := (List.getElem?_eq_some_iff.1 hb).2
  rw [← this]; rfl
 simp [Instr.index, run_underlying hT, asIntOf, h0]
theorem run_index_hex {P : Program} {T : TypeId} (hT : P.underlying T = some .string) (K : IntKind) (i : Int) (k : Nat) (hi : i = k) (hk : k < 16) (W : World) :
  (Instr.index T (.string ⟨#[48, 49, 50, 51, 52, 53, 54, 55, 56, 57, 97, 98, 99, 100, 101, 102]⟩) (.int K i)).run P W = .ok (.int .u8 ((hexD k).toNat : Int)) W :=
 run_index_at hT _ K i k hi (hexD k) (hex_at k hk) W
theorem run_bytes_two_drew {P : Program} {src dst e : TypeId} (hs : P.underlying src = some (.slice e)) (he : P.underlying e = some (.int .u8)) (hd : P.underlying dst = some .string) (w : World) (x y : UInt8) (t : TypeId) :
  (convert src dst (.slice (some ⟨w.heap.size, 0, none⟩) 2 2)).run P (w.alloc (.cells #[.int .u8 (x.toNat : Int), .int .u8 (y.toNat : Int)] t)).drew = .ok (.string ⟨[x, y].toArray⟩) (w.alloc (.cells #[.int .u8 (x.toNat : Int), .int .u8 (y.toNat : Int)] t)).drew := by
 have h := run_bytes_two hs he hd w.drew (x.toNat : Int) (y.toNat : Int) t
 simp only [Int.toNat_natCast, UInt8.ofNat_toNat] at h
 exact h
set_option maxHeartbeats 1000000 in
set_option maxRecDepth 100000 in
theorem Rone_any (c : UInt8) (w : World) :
  Calls Tryz.prog 50 #[.int .u8 (c.toNat : Int)] w fun e w' => e = .returned (.string ⟨(quo c).toArray⟩) ∧ Fr [] w w' := by
 rw [quo_str c]
 have c0 : 0 ≤ ((c.toNat : Nat) : Int) := by omega
 have c1 : ((c.toNat : Nat) : Int) ≤ 255 := by have := c.toNat_lt; omega
 by_cases h1 : ((c.toNat : Nat) : Int) = 34
 ·rw [if_pos h1]
  have b1 : (((c.toNat : Nat) : Int) == 34) = true := by simpa using h1
  clear h1
  go_enter Tryz.func50, Tryz.ntmps50
  go_wp2_with fail
  go_ret
  exact ⟨rfl, Fr.refl _ _⟩
 ·rw [if_neg h1]
  have b1 : (((c.toNat : Nat) : Int) == 34) = false := by simpa using h1
  clear h1
  by_cases h2 : ((c.toNat : Nat) : Int) = 92
  ·rw [if_pos h2]
   have b2 : (((c.toNat : Nat) : Int) == 92) = true := by simpa using h2
   clear h2
   go_enter Tryz.func50, Tryz.ntmps50
   go_wp2_with fail
   go_ret
   exact ⟨rfl, Fr.refl _ _⟩
  ·rw [if_neg h2]
   have b2 : (((c.toNat : Nat) : Int) == 92) = false := by simpa using h2
   clear h2
   by_cases h3 : ((c.toNat : Nat) : Int) = 10
   ·rw [if_pos h3]
    have b3 : (((c.toNat : Nat) : Int) == 10) = true := by simpa using h3
    clear h3
    go_enter Tryz.func50, Tryz.ntmps50
    go_wp2_with fail
    go_ret
    exact ⟨rfl, Fr.refl _ _⟩
   ·rw [if_neg h3]
    have b3 : (((c.toNat : Nat) : Int) == 10) = false := by simpa using h3
    clear h3
    by_cases h4 : 32 ≤ ((c.toNat : Nat) : Int) ∧ ((c.toNat : Nat) : Int) ≤ 126
    ·rw [if_pos h4]
     have b4 : decide (32 ≤ ((c.toNat : Nat) : Int)) = true := decide_eq_true h4.1
     have b5 : decide (((c.toNat : Nat) : Int) ≤ 126) = true := decide_eq_true h4.2
     have hc := run_bytes_one Tryz.underlying82 Tryz.underlying5 Tryz.underlying9 w ((c.toNat : Nat) : Int) 5
     simp only [Int.toNat_natCast, UInt8.ofNat_toNat] at hc
     clear h4
     go_enter Tryz.func50, Tryz.ntmps50
     go_wp2_with fail
     go_ret
     exact ⟨rfl, (Fr.refl _ _).alloc _⟩
    ·rw [if_neg h4]
     have key : decide (32 ≤ ((c.toNat : Nat) : Int)) = false ∨ (decide (32 ≤ ((c.toNat : Nat) : Int)) = true ∧ decide (((c.toNat : Nat) : Int) ≤ 126) = false) := by
      by_cases h5 : 32 ≤ ((c.toNat : Nat) : Int)
      ·exact .inr ⟨decide_eq_true h5, decide_eq_false (fun h => h4 ⟨h5, h⟩)⟩
      ·exact .inl (decide_eq_false h5)
     clear h4
     have cl := c.toNat_lt
     have i1 := fun W => run_index_hex (P := Tryz.prog) Tryz.underlying9 .u8 (((c.toNat : Nat) : Int) / 16) (c.toNat / 16) (by omega) (by omega) W
     have i2 := fun W => run_index_hex (P := Tryz.prog) Tryz.underlying9 .u8 (((c.toNat : Nat) : Int) % 16) (c.toNat % 16) (by omega) (by omega) W
     have hc := run_bytes_two_drew Tryz.underlying82 Tryz.underlying5 Tryz.underlying9 w (hexD (c.toNat / 16)) (hexD (c.toNat % 16)) 5
     clear cl
     rcases key with b4 | ⟨b4, b5⟩
     all_goals
      go_enter Tryz.func50, Tryz.ntmps50
      go_wp2_with fail
      go_region
      all_goals
       go_wp2_with fail
       go_ret
       exact ⟨by simp [ByteArray.mk_append_mk], ((Fr.refl _ _).alloc _).drew⟩
theorem quotes_snoc (l : List UInt8) (c : UInt8) : quotes (l ++ [c]) = quotes l ++ quo c := by simp [quotes]
theorem quotes_take (s : ByteArray) (k : Nat) (h : k < s.size) : quotes (s.data.toList.take (k + 1)) = quotes (s.data.toList.take k) ++ quo s[k] := by rw [take_snoc s k h, quotes_snoc]
theorem quotes_take_len (s : ByteArray) (k : Nat) (h : k ≤ s.size) : (quotes (s.data.toList.take k)).length ≤ 4 * s.size := by
 have h1 := quotes_len (s.data.toList.take k)
 have h2 := List.length_take_le k s.data.toList
 omega
def OwnB (B : Nat) (v : Value) (l : List UInt8) (w : World) : Prop := w.ownsRow 0 5 1 v l.length (Lib.byteCells l) ∧ ∀ g, v.ownBlock = some g → B ≤ g
theorem OwnB.fr {B : Nat} {v : Value} {l : List UInt8} {w w' : World} (h : OwnB B v l w) (hf : Fr [] w w') : OwnB B v l w' := ⟨ownsRow_fr h.1 hf (fun _ _ h => by cases h), h.2⟩
theorem OwnB.lit (w : World) (c : UInt8) : OwnB w.heap.size (.slice (some ⟨w.heap.size, 0, none⟩) 1 1) [c] (w.alloc (.cells #[.int .u8 (c.toNat : Int)] 5)) :=
 ⟨World.ownsRow_lit w #[.int .u8 (c.toNat : Int)] 1 (Nat.zero_le _) (by decide) rfl, fun g hg => by simp [Value.ownBlock] at hg; omega⟩
set_option maxHeartbeats 1000000 in
set_option maxRecDepth 100000 in
theorem RQuote_any (s : ByteArray) (hs : s.size ≤ 16777216) (w : World) :
  Calls Tryz.prog 32 #[.string s] w fun e w' => e = .returned (.string ⟨(quoteL s.data.toList).toArray⟩) ∧ Fr [] w w' := by
 obtain ⟨i0, hi, hz0, hz1, hz2⟩ := info_parts infoByte
 have h34 := OwnB.lit w 34
 go_enter Tryz.func32, Tryz.ntmps32
 go_wp2_with fail
 go_loopw [3, 4] (fun v i wr => ∃ k : Nat, k ≤ s.size ∧ i = .int .i64 k ∧ OwnB w.heap.size v (34 :: quotes (s.data.toList.take k)) wr ∧ Fr [] w wr) (fun _ i _ => s.size - (intOf i).toNat)
 case atStart => exact ⟨0, Nat.zero_le _, rfl, h34, (Fr.refl _ _).alloc _⟩
 case round =>
  obtain ⟨k, hk, rfl, ⟨hown, hog⟩, hf⟩ := hrel
  clear h34
  have hql := quotes_take_len s k hk
  by_cases hlt : k < s.size
  ·have hq1 := Lib.hid (quotes_take s k hlt)
   have hqc := (quo_len s[k]).2
   go_wp2_with fail
   refine (Rone_any s[k] _).mono ?_
   rintro e w1 ⟨rfl, hf1⟩
   have hown1 := ownsRow_fr hown hf1 (fun _ _ h => by cases h)
   go_wp2_with (at_builtin; refine wpList_append_fp_string _ rfl _ _ 82 9 rfl 5 i0 Tryz.underlying82 Tryz.underlying9 hi hz0 hz1 hz2 _ _ _ rfl hown1 ⟨(quo s[k]).toArray⟩ rfl ?c3 ?c4 ?_)
   case c3 => unfold maxLen; simp only [List.length_cons, ByteArray.size_mk', List.size_toArray]; omega
   case c4 => simp only [List.length_cons, ByteArray.size_mk', List.size_toArray]; omega
   intro v' w2 hown2 hgrow hfp
   go_wp2_with fail
   go_roundw
   case rel =>
    refine ⟨k + 1, by omega, by go_num, ⟨?_, ?_⟩, ?_⟩
    ·rw [hq1.out]
     have e1 : (34 :: (quotes (s.data.toList.take k) ++ quo s[k])) = (34 :: quotes (s.data.toList.take k)) ++ quo s[k] := rfl
     rw [e1, List.length_append, Lib.byteCells_append]
     have e2 : Lib.strCells ⟨(quo s[k]).toArray⟩ = Lib.byteCells (quo s[k]) := strCells_list _
     rw [← e2]
     exact hown2
    ·intro g hg
     rcases hfp g hg with h | h
     ·exact hog g h
     ·have := hf.size; have := hf1.size; omega
    ·exact (hf.trans hf1).append hgrow (fun g hg => .inr (hog g hg))
   case measure => simp [intOf]; omega
  ·have hts : s.data.toList.take k = s.data.toList := List.take_of_length_le (by rw [size_list]; omega)
   have HT := Lib.hid hts
   clear hts
   go_wp2_with (at_builtin; refine wpList_append_fp _ rfl _ _ 82 rfl 5 i0 (.int .u8 0) 1 1 Tryz.underlying82 hi hz0 hz1 hz2 rfl (by decide) _ _ _ rfl (hown.alloc _) ⟨wr.heap.size, 0, none⟩ 1 1 [.int .u8 34] rfl rfl ?c1 ?c2 ?c3 ?c4 ?_)
   case c1 =>
    intro j u hj
    match j, hj with
    | 0, hj => simp at hj; subst hj; simp [Addr.add]
   case c2 => intro u hu; simp at hu; subst hu; rfl
   case c3 => unfold maxLen; simp only [List.length_cons]; omega
   case c4 => simp only [List.length_cons]; omega
   intro v' w2 hown2 hgrow hfp
   have hl : (quotes (s.data.toList.take k)).length + 1 + 1 = (quoteL s.data.toList).length := by rw [HT.out]; simp [quoteL]
   have hc : Lib.byteCells (34 :: quotes (s.data.toList.take k)) ++ [.int .u8 34] = Lib.byteCells (quoteL s.data.toList) := by rw [HT.out]; simp [quoteL, Lib.byteCells]
   rw [hl, hc] at hown2
   clear hl hc
   have hconv := run_bytes_own Tryz.underlying82 Tryz.underlying5 Tryz.underlying9 w2 _ v' _ hown2
   go_wp2_with fail
   go_ret
   exact ⟨rfl, (hf.alloc _).append hgrow (fun g hg => .inr (hog g hg))⟩
end Go.Proofs.YtpjkfeehgookkaaGreatDoor
namespace Go.Proofs.YtpjkfeehgookkaaGreatDoor
open Go.RowKit
def BI (w : World) (b : Nat) (r : Option (Nat × Obj)) (l : List UInt8) (wr : World) : Prop :=
 ∃ own, Bld b own l wr ∧ (∀ g, own = some g → w.heap.size ≤ g) ∧ w.heap.size ≤ b ∧ Fr [] w wr ∧ ∀ k o, r = some (k, o) → wr.heap[k]? = some o ∧ k ≠ b ∧ own ≠ some k
theorem BI.start (w : World) : BI w w.heap.size none [] (w.alloc (.cells #[.pointer none, .slice none 0 0] 101)) :=
 ⟨none, Bld.fresh w, (fun _ h => by cases h), Nat.le_refl _, (Fr.refl _ _).alloc _, (fun _ _ h => by cases h)⟩
theorem BI.beside {w : World} {b : Nat} {l : List UInt8} {wr w' : World} (h : BI w b none l wr) (hf : Fr [] wr w') {k : Nat} {o : Obj} (hk : wr.heap.size ≤ k) (ho : w'.heap[k]? = some o) : BI w b (some (k, o)) l w' := by
 obtain ⟨own, hb, hg, hbw, hfr, _⟩ := h
 refine ⟨own, hb.keep hf (fun h => by cases h) (fun _ _ h => by cases h), hg, hbw, hfr.trans hf, ?_⟩
 intro k' o' e
 cases e
 have := hb.lt
 exact ⟨ho, by omega, fun e => by have := hb.own_lt k e; omega⟩
theorem BI.at {w : World} {b k : Nat} {o : Obj} {l : List UInt8} {wr : World} (h : BI w b (some (k, o)) l wr) : wr.heap[k]? = some o := by
 obtain ⟨own, _, _, _, _, hr⟩ := h
 exact (hr k o rfl).1
theorem BI.fr {w : World} {b : Nat} {r : Option (Nat × Obj)} {l : List UInt8} {wr w' : World} (h : BI w b r l wr) (hf : Fr [] wr w') : BI w b r l w' := by
 obtain ⟨own, hb, hg, hbw, hfr, hr⟩ := h
 refine ⟨own, hb.keep hf (fun h => by cases h) (fun _ _ h => by cases h), hg, hbw, hfr.trans hf, fun k o e => ?_⟩
 obtain ⟨h1, h2⟩ := hr k o e
 exact ⟨hf.keep h1 (fun h => by cases h), h2⟩
theorem BI.wrote {w : World} {b : Nat} {r : Option (Nat × Obj)} {l m : List UInt8} {wr w' : World} {own : Option Nat} (_hb : Bld b own l wr) (hg : ∀ g, own = some g → w.heap.size ≤ g) (hbw : w.heap.size ≤ b) (hfr : Fr [] w wr)
  (hr : ∀ k o, r = some (k, o) → wr.heap[k]? = some o ∧ k ≠ b ∧ own ≠ some k) (hw : Wrote b own m wr w') : BI w b r m w' := by
 obtain ⟨⟨own', hb', hfp⟩, hf⟩ := hw
 refine ⟨own', hb', ?_, hbw, hfr.step hf ?_, ?_⟩
 ·intro g e
  rcases hfp g e with h | h
  ·exact hg g h
  ·have := hfr.size; omega
 ·intro x hx
  simp only [List.mem_cons, Option.mem_toList] at hx
  rcases hx with rfl | hx
  ·exact .inr hbw
  ·exact .inr (hg x hx)
 ·intro k o e
  obtain ⟨h1, h2, h3⟩ := hr k o e
  refine ⟨hf.keep h1 ?_, h2, ?_⟩
  ·intro hx
   simp only [List.mem_cons, Option.mem_toList] at hx
   rcases hx with hx | hx
   ·exact h2 hx
   ·exact h3 hx
  ·intro e'
   rcases hfp k e' with h | h
   ·exact h3 h
   ·have := lt_of_heap h1; omega
theorem BI_byte (c : Int) (w : World) (b : Nat) (r : Option (Nat × Obj)) (l : List UInt8) (wr : World) (c0 : 0 ≤ c) (c1 : c ≤ 255) (h : BI w b r l wr) (hlen : l.length + 1 ≤ 140737488355328) :
  Calls Tryz.prog 76 #[.pointer (some ⟨b, 0, none⟩), .int .u8 c] wr fun e w' => e = .returned .nilIface ∧ BI w b r (l ++ [UInt8.ofNat c.toNat]) w' := by
 obtain ⟨own, hb, hg, hbw, hfr, hr⟩ := h
 exact (WriteByte_any b own l c c0 c1 wr hb hlen).mono fun _ _ ⟨he, hw⟩ => ⟨he, BI.wrote hb hg hbw hfr hr hw⟩
theorem BI_text (s : ByteArray) (w : World) (b : Nat) (r : Option (Nat × Obj)) (l : List UInt8) (wr : World) (h : BI w b r l wr) (hlen : l.length + s.size ≤ 140737488355328) :
  Calls Tryz.prog 106 #[.pointer (some ⟨b, 0, none⟩), .string s] wr fun e w' => e = .returned (.tuple #[.int .i64 s.size, .nilIface]) ∧ BI w b r (l ++ s.data.toList) w' := by
 obtain ⟨own, hb, hg, hbw, hfr, hr⟩ := h
 exact (WriteString_any b own l s wr hb hlen).mono fun _ _ ⟨he, hw⟩ => ⟨he, BI.wrote hb hg hbw hfr hr hw⟩
theorem BI_string (w : World) (b : Nat) (r : Option (Nat × Obj)) (l : List UInt8) (wr : World) (h : BI w b r l wr) :
  Calls Tryz.prog 78 #[.pointer (some ⟨b, 0, none⟩)] wr fun e w' => e = .returned (.string ⟨l.toArray⟩) ∧ Fr [] w w' := by
 obtain ⟨own, hb, hg, hbw, hfr, hr⟩ := h
 exact (String_any w.heap.size b own l wr hb hbw hg).mono fun _ _ ⟨he, hw⟩ => ⟨he, ⟨hw.os.trans hfr.os, hw.tape.trans hfr.tape, hw.output.trans hfr.output, Nat.le_trans hfr.size hw.size, fun k hk _ => (hw.block k hk).trans (hfr.block k hk (fun h => by cases h))⟩⟩
theorem and15 (c : UInt8) : bits .and .u8 ((c.toNat : Nat) : Int) 15 = ((c.toNat % 16 : Nat) : Int) := by
 have h := c.toNat_lt
 rw [show (15 : Int) = ((15 : Nat) : Int) from rfl, u8_and_nat c.toNat 15 (by omega) (by omega)]
 have : c.toNat &&& 15 = c.toNat % 16 := Nat.and_two_pow_sub_one_eq_mod c.toNat 4
 rw [this]
set_option maxHeartbeats 1000000 in
set_option maxRecDepth 100000 in
theorem Quote_any (s : ByteArray) (hs : s.size ≤ 16777216) (w : World) :
  Calls Tryz.prog 79 #[.string s] w fun e w' => e = .returned (.string ⟨(quoteL s.data.toList).toArray⟩) ∧ Fr [] w w' := by
 have hcv := fun W => Lib.run_convert_string_bytes (P := Tryz.prog) W 9 82 5 s Tryz.underlying9 Tryz.underlying82 Tryz.underlying5
 go_enter Tryz.func79, Tryz.ntmps79
 go_wp2_with fail
 refine (BI_byte 34 w w.heap.size none [] _ (by decide) (by decide) (BI.start w) (by decide)).mono ?_
 rintro e w1 ⟨rfl, h1⟩
 go_wp2_with fail
 have h2 : BI w w.heap.size (some (w1.heap.size, .cells (Lib.bytesCells w1 5 s) 5 ((Lib.bytesCells w1 5 s).size, (Lib.bytesCells w1 5 s).size + 1))) [34] (Lib.bytesWorld w1 5 s) :=
  h1.beside (Fr.of_below (Lib.bytesWorld_below _ _ _)) (Nat.le_refl _) (Lib.bytesWorld_at_new w1 5 s)
 have hcell : ∀ W : World, W.heap[w1.heap.size]? = some (.cells (Lib.bytesCells w1 5 s) 5 ((Lib.bytesCells w1 5 s).size, (Lib.bytesCells w1 5 s).size + 1)) → ∀ k (hk : k < s.size), W.cell? ⟨w1.heap.size, k, none⟩ = some (.int .u8 ((s[k].toNat : Nat) : Int)) := by
  intro W hW k hk
  have h3 := Lib.bytesWorld_cell w1 5 s k hk
  rw [cell_of (Lib.bytesWorld_at_new w1 5 s)] at h3
  rw [cell_of hW, h3, List.getD_eq_getElem?_getD, List.getElem?_eq_getElem (by simpa using hk)]
  rfl
 have HC := Lib.hid hcell
 clear hcell h1 hcv
 generalize Obj.cells (Lib.bytesCells w1 5 s) 5 ((Lib.bytesCells w1 5 s).size, (Lib.bytesCells w1 5 s).size + 1) = O at *
 generalize Lib.bytesWorld w1 5 s = w2 at *
 generalize w1.heap.size = R at *
 generalize w.heap.size = b at *
 go_loopw [10] (fun i wr => ∃ k : Nat, k ≤ s.size ∧ i = .int .i64 k ∧ BI w b (some (R, O)) (34 :: quotes (s.data.toList.take k)) wr) (fun i _ => s.size - (intOf i).toNat)
 case atStart => exact ⟨0, Nat.zero_le _, rfl, h2⟩
 case round =>
  obtain ⟨k, hk, rfl, hb⟩ := hrel
  clear h2
  have hql := quotes_take_len s k hk
  by_cases hlt : k < s.size
  ·have hq1 := quotes_take s k hlt
   rw [quo_str] at hq1
   have hcell := HC.out wr hb.at k hlt
   have cl := s[k].toNat_lt
   have c0 : 0 ≤ ((s[k].toNat : Nat) : Int) := by omega
   have c1 : ((s[k].toNat : Nat) : Int) ≤ 255 := by omega
   have hbk : UInt8.ofNat s[k].toNat = s[k] := UInt8.ofNat_toNat
   have HB := Lib.hid hbk
   by_cases e1 : ((s[k].toNat : Nat) : Int) = 34
   ·rw [if_pos e1] at hq1
    have HQ := Lib.hid hq1
    have HE : Hid (s[k] = 34) := Lib.hid (UInt8.toNat_inj.1 (by have h9 : (34 : UInt8).toNat = 34 := rfl; omega))
    have b1 : (((s[k].toNat : Nat) : Int) == 34) = true := by simpa using e1
    clear hq1 e1 hbk cl
    go_wp2_with fail
    refine (BI_byte 92 _ _ _ _ _ (by omega) (by omega) hb (by simp only [List.length_cons]; omega)).mono ?_
    rintro e x1 ⟨rfl, hb1⟩
    go_wp2_with fail
    refine (BI_byte _ _ _ _ _ _ (by omega) (by omega) hb1 (by simp only [List.length_append, List.length_cons, List.length_nil]; omega)).mono ?_
    rintro e x2 ⟨rfl, hb2⟩
    go_wp2_with fail
    go_roundw
    case rel => exact ⟨k + 1, by omega, by go_num, by rw [HQ.out]; simpa [HE.out] using hb2⟩
    case measure => simp [intOf]; omega
   ·rw [if_neg e1] at hq1
    have b1 : (((s[k].toNat : Nat) : Int) == 34) = false := by simpa using e1
    clear e1
    by_cases e2 : ((s[k].toNat : Nat) : Int) = 92
    ·rw [if_pos e2] at hq1
     have HQ := Lib.hid hq1
     have HE : Hid (s[k] = 92) := Lib.hid (UInt8.toNat_inj.1 (by have h9 : (92 : UInt8).toNat = 92 := rfl; omega))
     have b2 : (((s[k].toNat : Nat) : Int) == 92) = true := by simpa using e2
     clear hq1 e2 hbk cl
     go_wp2_with fail
     refine (BI_byte 92 _ _ _ _ _ (by omega) (by omega) hb (by simp only [List.length_cons]; omega)).mono ?_
     rintro e x1 ⟨rfl, hb1⟩
     go_wp2_with fail
     refine (BI_byte _ _ _ _ _ _ (by omega) (by omega) hb1 (by simp only [List.length_append, List.length_cons, List.length_nil]; omega)).mono ?_
     rintro e x2 ⟨rfl, hb2⟩
     go_wp2_with fail
     go_roundw
     case rel => exact ⟨k + 1, by omega, by go_num, by rw [HQ.out]; simpa [HE.out] using hb2⟩
     case measure => simp [intOf]; omega
    ·rw [if_neg e2] at hq1
     have b2 : (((s[k].toNat : Nat) : Int) == 92) = false := by simpa using e2
     clear e2
     by_cases e3 : ((s[k].toNat : Nat) : Int) = 10
     ·rw [if_pos e3] at hq1
      have HQ := Lib.hid hq1
      have b3 : (((s[k].toNat : Nat) : Int) == 10) = true := by simpa using e3
      clear hq1 e3 hbk cl
      go_wp2_with fail
      refine (BI_text _ _ _ _ _ _ hb (by simp only [List.length_cons, List.length_nil, ByteArray.size_mk', List.size_toArray]; omega)).mono ?_
      rintro e x1 ⟨rfl, hb1⟩
      go_wp2_with fail
      go_roundw
      case rel => exact ⟨k + 1, by omega, by go_num, by rw [HQ.out]; simpa using hb1⟩
      case measure => simp [intOf]; omega
     ·rw [if_neg e3] at hq1
      have b3 : (((s[k].toNat : Nat) : Int) == 10) = false := by simpa using e3
      clear e3
      by_cases e4 : 32 ≤ ((s[k].toNat : Nat) : Int) ∧ ((s[k].toNat : Nat) : Int) ≤ 126
      ·rw [if_pos e4] at hq1
       have HQ := Lib.hid hq1
       have b4 : decide (32 ≤ ((s[k].toNat : Nat) : Int)) = true := decide_eq_true e4.1
       have b5 : decide (((s[k].toNat : Nat) : Int) ≤ 126) = true := decide_eq_true e4.2
       clear hq1 e4 hbk cl
       go_wp2_with fail
       refine (BI_byte _ _ _ _ _ _ (by omega) (by omega) hb (by simp only [List.length_cons]; omega)).mono ?_
       rintro e x1 ⟨rfl, hb1⟩
       go_wp2_with fail
       go_roundw
       case rel => exact ⟨k + 1, by omega, by go_num, by rw [HQ.out]; simpa using hb1⟩
       case measure => simp [intOf]; omega
      ·rw [if_neg e4] at hq1
       have HQ := Lib.hid hq1
       have key : decide (32 ≤ ((s[k].toNat : Nat) : Int)) = false ∨ (decide (32 ≤ ((s[k].toNat : Nat) : Int)) = true ∧ decide (((s[k].toNat : Nat) : Int) ≤ 126) = false) := by
        by_cases h5 : 32 ≤ ((s[k].toNat : Nat) : Int)
        ·exact .inr ⟨decide_eq_true h5, decide_eq_false (fun h => e4 ⟨h5, h⟩)⟩
        ·exact .inl (decide_eq_false h5)
       have i1 := fun W => run_index_hex (P := Tryz.prog) Tryz.underlying9 .u8 (((s[k].toNat : Nat) : Int) / 16) (s[k].toNat / 16) (by omega) (by omega) W
       have i2 := fun W => run_index_hex (P := Tryz.prog) Tryz.underlying9 .u8 (bits .and .u8 ((s[k].toNat : Nat) : Int) 15) (s[k].toNat % 16) (and15 _) (by omega) W
       have i3 := fun W => run_index_hex (P := Tryz.prog) Tryz.underlying9 .u8 (((s[k].toNat : Nat) : Int) % 16) (s[k].toNat % 16) (by omega) (by omega) W
       have i4 := fun W => run_index_hex (P := Tryz.prog) Tryz.underlying9 .u8 (((s[k].toNat % 16 : Nat) : Int)) (s[k].toNat % 16) rfl (by omega) W
       have u1 := (hexD (s[k].toNat / 16)).toNat_lt
       have u2 := (hexD (s[k].toNat % 16)).toNat_lt
       clear hq1 e4 hbk cl
       rcases key with b4 | ⟨b4, b5⟩
       all_goals
        go_wp2_with fail
        refine (BI_text _ _ _ _ _ _ hb (by simp only [List.length_cons, List.length_nil, ByteArray.size_mk', List.size_toArray]; omega)).mono ?_
        rintro e x1 ⟨rfl, hb1⟩
        go_wp2_with fail
        refine (BI_byte _ _ _ _ _ _ (by omega) (by omega) hb1 (by simp only [List.length_append, List.length_cons, List.length_nil]; omega)).mono ?_
        rintro e x2 ⟨rfl, hb2⟩
        go_wp2_with fail
        refine (BI_byte _ _ _ _ _ _ (by omega) (by omega) hb2 (by simp only [List.length_append, List.length_cons, List.length_nil]; omega)).mono ?_
        rintro e x3 ⟨rfl, hb3⟩
        go_wp2_with fail
        go_roundw
        case rel => exact ⟨k + 1, by omega, by go_num, by rw [HQ.out]; simpa using hb3⟩
        case measure => simp [intOf]; omega
  ·have hts : s.data.toList.take k = s.data.toList := List.take_of_length_le (by rw [size_list]; omega)
   rw [hts] at hb hql
   go_wp2_with fail
   refine (BI_byte 34 _ _ _ _ _ (by omega) (by omega) hb (by simp only [List.length_cons]; omega)).mono ?_
   rintro e x1 ⟨rfl, hb1⟩
   go_wp2_with fail
   refine (BI_string _ _ _ _ _ hb1).mono ?_
   rintro e x2 ⟨rfl, hf⟩
   go_wp2_with fail
   go_ret
   exact ⟨rfl, hf⟩
end Go.Proofs.YtpjkfeehgookkaaGreatDoor
namespace Go.Proofs.YtpjkfeehgookkaaGreatDoor
open Go.RowKit
theorem loose_fuel : ∀ (n f g : Nat) (l : List UInt8), l.length ≤ n → l.length ≤ f → l.length ≤ g → loose f l = loose g l := by
 intro n
 induction n with
 | zero =>
  intro f g l hn _ _
  have : l = [] := List.eq_nil_of_length_eq_zero (by omega)
  subst this
  cases f <;> cases g <;> rfl
 | succ n ih =>
  intro f g l hn hf hg
  match l, hn, hf, hg with
  | [], _, _, _ => cases f <;> cases g <;> rfl
  | [x], _, hf, hg => 
   cases f with
   | zero => simp at hf
   | succ f => cases g with
    | zero => simp at hg
    | succ g => rfl
  | c :: d :: r, hn, hf, hg =>
   cases f with
   | zero => simp at hf
   | succ f => cases g with
    | zero => simp at hg
    | succ g =>
     simp only [List.length_cons] at hn hf hg
     have e1 := ih f g (d :: r) (by simp only [List.length_cons]; omega) (by simp only [List.length_cons]; omega) (by simp only [List.length_cons]; omega)
     have e2 := ih f g r (by omega) (by omega) (by omega)
     have e3 := ih f g (r.drop 2) (by simp only [List.length_drop]; omega) (by simp only [List.length_drop]; omega) (by simp only [List.length_drop]; omega)
     simp only [loose, e1, e2, e3]
def rest (s : ByteArray) (k : Nat) : List UInt8 := loose s.size (s.data.toList.drop k)
theorem drop_cons (s : ByteArray) (k : Nat) (h : k < s.size) : s.data.toList.drop k = s[k] :: s.data.toList.drop (k + 1) := by
 rw [List.drop_eq_getElem_cons (by simpa using h)]; rfl
theorem rest_end (s : ByteArray) (k : Nat) (h : s.size ≤ k + 1) : rest s k = [] := by
 unfold rest
 by_cases hk : k < s.size
 ·rw [drop_cons s k hk, List.drop_of_length_le (by rw [size_list]; omega)]
  cases s.size <;> rfl
 ·rw [List.drop_of_length_le (by rw [size_list]; omega)]
  cases s.size <;> rfl
theorem drop_len (s : ByteArray) (k : Nat) : (s.data.toList.drop k).length = s.size - k := by rw [List.length_drop, size_list]
theorem rest_step (s : ByteArray) (k : Nat) (h : k + 1 < s.size) : rest s k = (if s[k] ≠ 92 then s[k] :: rest s (k + 1) else if s[k + 1] = 110 then 10 :: rest s (k + 2)
  else if s[k + 1] = 120 ∧ k + 3 < s.size then hexP (s.data.toList.getD (k + 2) 0) (s.data.toList.getD (k + 3) 0) :: rest s (k + 4) else s[k + 1] :: rest s (k + 2)) := by
 obtain ⟨n, hn⟩ : ∃ n, s.size = n + 1 := ⟨s.size - 1, by omega⟩
 have d1 := drop_len s (k + 1); have d2 := drop_len s (k + 2); have d4 := drop_len s (k + 4)
 have f1 : loose n (s.data.toList.drop (k + 1)) = rest s (k + 1) := loose_fuel _ _ _ _ (Nat.le_refl _) (by omega) (by omega)
 have f2 : loose n (s.data.toList.drop (k + 2)) = rest s (k + 2) := loose_fuel _ _ _ _ (Nat.le_refl _) (by omega) (by omega)
 have f4 : loose n (s.data.toList.drop (k + 4)) = rest s (k + 4) := loose_fuel _ _ _ _ (Nat.le_refl _) (by omega) (by omega)
 have e1 := drop_cons s (k + 1) h
 have hx : (s.data.toList.drop (k + 2)).drop 2 = s.data.toList.drop (k + 4) := by rw [List.drop_drop]
 have g0 : (s.data.toList.drop (k + 2)).getD 0 0 = s.data.toList.getD (k + 2) 0 := by simp [List.getD_eq_getElem?_getD]
 have g1 : (s.data.toList.drop (k + 2)).getD 1 0 = s.data.toList.getD (k + 3) 0 := by simp [List.getD_eq_getElem?_getD]
 have hl : (2 ≤ (s.data.toList.drop (k + 2)).length) ↔ k + 3 < s.size := by rw [d2]; omega
 have e0 : rest s k = loose (n + 1) (s[k] :: s[k + 1] :: s.data.toList.drop (k + 2)) := by
  have hgen : ∀ m, m = n + 1 → loose m (s.data.toList.drop k) = loose (n + 1) (s[k] :: s[k + 1] :: s.data.toList.drop (k + 2)) := by
   intro m hm
   subst hm
   rw [drop_cons s k (by omega), e1]
  exact hgen _ hn
 rw [e0, loose, ← e1, f1, f2, hx, f4, g0, g1]
 simp only [hl]
theorem hexV_spec (c : UInt8) : Lib.indexByte hexB c = hexV c := by
 have h : ∀ c : Fin 256, Lib.indexByte hexB (UInt8.ofNat c.val) = hexV (UInt8.ofNat c.val) := by decide +kernel
 have := h ⟨c.toNat, c.toNat_lt⟩
 simpa using this
theorem hexV_bd (c : UInt8) : -1 ≤ hexV c ∧ hexV c ≤ 15 := by
 have h : ∀ c : Fin 256, -1 ≤ hexV (UInt8.ofNat c.val) ∧ hexV (UInt8.ofNat c.val) ≤ 15 := by decide +kernel
 have := h ⟨c.toNat, c.toNat_lt⟩
 simpa using this
theorem hexP_spell (a b : UInt8) : IntKind.u8.wrap (bits .or .i64 (IntKind.i64.wrap (hexV a * 16)) (bits .and .i64 (hexV b) 15)) = (((hexP a b).toNat : Nat) : Int) := by
 have h : ∀ i j : Fin 17, IntKind.u8.wrap (bits .or .i64 (IntKind.i64.wrap (((i.val : Int) - 1) * 16)) (bits .and .i64 ((j.val : Int) - 1) 15)) = (((UInt8.ofNat (((((i.val : Int) - 1) * 16 % 256).toNat) ||| ((((j.val : Int) - 1) % 16).toNat))).toNat : Nat) : Int) := by decide +kernel
 have ha := hexV_bd a; have hb := hexV_bd b
 have h2 := h ⟨(hexV a + 1).toNat, by omega⟩ ⟨(hexV b + 1).toNat, by omega⟩
 have e1 : (((hexV a + 1).toNat : Nat) : Int) - 1 = hexV a := by omega
 have e2 : (((hexV b + 1).toNat : Nat) : Int) - 1 = hexV b := by omega
 simp only [e1, e2] at h2
 exact h2
theorem hexP_le (a b : UInt8) : (((hexP a b).toNat : Nat) : Int) ≤ 255 := by have := (hexP a b).toNat_lt; omega
theorem getD_s (s : ByteArray) (k : Nat) (h : k < s.size) : s.data.toList.getD k 0 = s[k] := by
 have h2 : k < s.data.toList.length := by rw [size_list]; exact h
 rw [List.getD_eq_getElem?_getD, List.getElem?_eq_getElem h2]; rfl
theorem IndexByte_hex (c : UInt8) (w : World) : Calls Tryz.prog 77 #[.string ⟨#[48, 49, 50, 51, 52, 53, 54, 55, 56, 57, 97, 98, 99, 100, 101, 102]⟩, .int .u8 ((c.toNat : Nat) : Int)] w fun e w' => e = .returned (.int .i64 (hexV c)) ∧ w' = w := by
 have h := Tryz.strings_IndexByte ⟨#[48, 49, 50, 51, 52, 53, 54, 55, 56, 57, 97, 98, 99, 100, 101, 102]⟩ ((c.toNat : Nat) : Int) w
 have e : Lib.indexByte (⟨#[48, 49, 50, 51, 52, 53, 54, 55, 56, 57, 97, 98, 99, 100, 101, 102]⟩ : ByteArray).data.toList ((c.toNat : Nat) : Int).toNat.toUInt8 = hexV c := by
  have h1 : ((c.toNat : Nat) : Int).toNat.toUInt8 = c := by simp
  rw [h1]
  exact hexV_spec c
 rw [e] at h
 exact h
set_option maxHeartbeats 1000000 in
set_option maxRecDepth 100000 in
theorem Unquote_any (s : ByteArray) (hs : s.size ≤ 16777216) (w : World) :
  Calls Tryz.prog 48 #[.string s] w fun e w' => e = .returned (.tuple #[.string ⟨(unqT s.data.toList).toArray⟩, .int .i64 (unqE s.data.toList)]) ∧ Fr [] w w' := by
 go_enter Tryz.func48, Tryz.ntmps48
 go_wp2_with fail
 have hst := BI.start w
 generalize (w.alloc (.cells #[.pointer none, .slice none 0 0] 101)) = w1 at *
 generalize hbw : w.heap.size = b at *
 clear hbw
 have H0 : Hid ([] ++ rest s 1 = rest s 1) := Lib.hid rfl
 go_loopw [5] (fun i wr => ∃ (k : Nat) (acc : List UInt8), 1 ≤ k ∧ i = .int .i64 k ∧ BI w b none acc wr ∧ acc.length + 1 ≤ k ∧ k ≤ s.size + 1 ∧ Hid (acc ++ rest s k = rest s 1)) (fun i _ => s.size - (intOf i).toNat)
 case atStart => exact ⟨1, [], by omega, rfl, hst, by simp, by omega, H0⟩
 case round =>
  obtain ⟨k, acc, hk, rfl, hb, hal, hks, HR⟩ := hrel
  clear hst H0
  by_cases hlt : k + 1 < s.size
  ·have d0 : decide (((k : Nat) : Int) < (s.size : Int) - 1) = true := decide_eq_true (by omega)
   have d1 : (((k : Nat) : Int) < (s.size : Int) - 1) := by omega
   have hr1 := rest_step s k hlt
   have hbk : UInt8.ofNat s[k].toNat = s[k] := UInt8.ofNat_toNat
   have HB := Lib.hid hbk
   have cl := s[k].toNat_lt
   have c0 : 0 ≤ ((s[k].toNat : Nat) : Int) := by omega
   have c1 : ((s[k].toNat : Nat) : Int) ≤ 255 := by omega
   by_cases e1 : s[k] = 92
   ·rw [if_neg (by simpa using e1)] at hr1
    have b1 : (((s[k].toNat : Nat) : Int) == 92) = true := by rw [e1]; rfl
    have cl := s[k+1].toNat_lt
    have g0 : 0 ≤ ((s[k+1].toNat : Nat) : Int) := by omega
    have g1 : ((s[k+1].toNat : Nat) : Int) ≤ 255 := by omega
    have hb2 : UInt8.ofNat s[k+1].toNat = s[k+1] := UInt8.ofNat_toNat
    have HB2 := Lib.hid hb2
    clear c0 c1 hbk
    by_cases e2 : s[k+1] = 110
    ·rw [if_pos e2] at hr1
     have b2 : (((s[k+1].toNat : Nat) : Int) == 110) = true := by rw [e2]; rfl
     have HQ := Lib.hid hr1
     clear hr1 hb2 cl e2 e1
     go_wp2_with fail
     refine (BI_byte _ _ _ _ _ _ (by omega) (by omega) hb (by omega)).mono ?_
     rintro e x1 ⟨rfl, hb1⟩
     go_wp2_with fail
     go_roundw
     case rel => exact ⟨k + 2, _, by omega, by go_num, hb1, by simp; omega, by omega, Lib.hid (by rw [← HR.out, HQ.out]; simp)⟩
     case measure => simp [intOf]; omega
    ·rw [if_neg e2] at hr1
     have b2 : (((s[k+1].toNat : Nat) : Int) == 110) = false := by
      rw [beq_eq_false_iff_ne]; intro h; apply e2; apply UInt8.toNat_inj.1; have h9 : (110 : UInt8).toNat = 110 := rfl; omega
     by_cases e3 : s[k+1] = 120
     ·have b3 : ((s[k+1].toNat : Nat) : Int) = 120 := by rw [e3]; rfl
      by_cases e4 : k + 3 < s.size
      ·rw [if_pos ⟨e3, e4⟩] at hr1
       have HQ := Lib.hid hr1
       have b4 : ((k : Nat) : Int) + 1 + 2 < (s.size : Int) := by omega
       obtain ⟨k2, hk2⟩ : ∃ m : Nat, m = k + 2 := ⟨_, rfl⟩
       obtain ⟨k3, hk3⟩ : ∃ m : Nat, m = k + 3 := ⟨_, rfl⟩
       have v2 : IntKind.i64.wrap (((k : Nat) : Int) + 1 + 1) = (k2 : Int) := by rw [IntKind.wrap_i64]; omega
       have v3 : IntKind.i64.wrap (((k : Nat) : Int) + 1 + 2) = (k3 : Int) := by rw [IntKind.wrap_i64]; omega
       have q2 : 0 ≤ ((k2 : Nat) : Int) ∧ ((k2 : Nat) : Int) < (s.size : Int) := by omega
       have q3 : 0 ≤ ((k3 : Nat) : Int) ∧ ((k3 : Nat) : Int) < (s.size : Int) := by omega
       clear hr1 hb2 cl e2 e1 e3
       go_wp2_with fail
       go_region_with (first | (go_at_call 77; refine (IndexByte_hex _ _).mono ?_; rintro e w' ⟨rfl, rfl⟩) | (go_at_call 76; simp only [hexP_spell]; refine (BI_byte _ _ _ _ _ _ (Int.natCast_nonneg _) (hexP_le _ _) (hb.fr ((Fr.refl [] _).drew)) (by omega)).mono ?_; rintro e w' ⟨rfl, hb1⟩))
       all_goals
        go_wp2_with fail
        go_roundw
        case rel =>
         refine ⟨k + 4, _, by omega, by go_num, hb1, by simp; omega, by omega, Lib.hid ?_⟩
         rw [← HR.out, HQ.out, getD_s s (k + 2) (by omega), getD_s s (k + 3) (by omega)]
         have p2 : (((k : Nat) : Int) + 2).toNat = k + 2 := by omega
         have p3 : (((k : Nat) : Int) + 3).toNat = k + 3 := by omega
         simp [p2, p3, UInt8.ofNat_toNat]
        case measure => simp [intOf]; omega
      ·rw [if_neg (fun h => e4 h.2)] at hr1
       have HQ := Lib.hid hr1
       have HE := Lib.hid e3
       have b4 : ¬ ((k : Nat) : Int) + 1 + 2 < (s.size : Int) := by omega
       clear hr1 hb2 cl e2 e1 e3
       go_wp2_with fail
       refine (BI_byte _ _ _ _ _ _ (by omega) (by omega) hb (by omega)).mono ?_
       rintro e x1 ⟨rfl, hb1⟩
       go_wp2_with fail
       go_roundw
       case rel => exact ⟨k + 2, _, by omega, by go_num, hb1, by simp; omega, by omega, Lib.hid (by rw [← HR.out, HQ.out]; simp [HE.out])⟩
       case measure => simp [intOf]; omega
     ·rw [if_neg (fun h => e3 h.1)] at hr1
      have HQ := Lib.hid hr1
      have b3 : ¬ ((s[k+1].toNat : Nat) : Int) = 120 := by
       intro h; apply e3; apply UInt8.toNat_inj.1; have h9 : (120 : UInt8).toNat = 120 := rfl; omega
      clear hr1 hb2 cl e2 e1 e3
      go_wp2_with fail
      refine (BI_byte _ _ _ _ _ _ (by omega) (by omega) hb (by omega)).mono ?_
      rintro e x1 ⟨rfl, hb1⟩
      go_wp2_with fail
      go_roundw
      case rel => exact ⟨k + 2, _, by omega, by go_num, hb1, by simp; omega, by omega, Lib.hid (by rw [← HR.out, HQ.out]; simp [HB2.out])⟩
      case measure => simp [intOf]; omega
   ·rw [if_pos (by simpa using e1)] at hr1
    have HQ := Lib.hid hr1
    have b1 : (((s[k].toNat : Nat) : Int) == 92) = false := by
     rw [beq_eq_false_iff_ne]; intro h; apply e1; apply UInt8.toNat_inj.1; have h9 : (92 : UInt8).toNat = 92 := rfl; omega
    clear hr1 hbk cl e1
    go_wp2_with fail
    refine (BI_byte _ _ _ _ _ _ (by omega) (by omega) hb (by omega)).mono ?_
    rintro e x1 ⟨rfl, hb1⟩
    go_wp2_with fail
    go_roundw
    case rel => exact ⟨k + 1, _, by omega, by go_num, hb1, by simp; omega, by omega, Lib.hid (by rw [← HR.out, HQ.out]; simp [HB.out])⟩
    case measure => simp [intOf]; omega
  ·have d0 : decide (((k : Nat) : Int) < (s.size : Int) - 1) = false := decide_eq_false (by omega)
   have d1 : ¬ (((k : Nat) : Int) < (s.size : Int) - 1) := by omega
   have hacc := HR.out
   rw [rest_end s k (by omega), List.append_nil] at hacc
   have HA := Lib.hid hacc
   clear HR hacc
   go_wp2_with fail
   refine (BI_string _ _ _ _ _ hb).mono ?_
   rintro e x1 ⟨rfl, hf⟩
   have hql := quotes_len acc
   go_wp2_with fail
   have hq : quoteL acc = s.data.toList ∨ ¬ quoteL acc = s.data.toList := Classical.em _
   refine (Quote_any ⟨acc.toArray⟩ (by simp only [ByteArray.size_mk', List.size_toArray]; omega) _).mono ?_
   rintro e x2 ⟨rfl, hf2⟩
   have hr : loose s.data.toList.length (s.data.toList.drop 1) = acc := by rw [HA.out, rest, size_list]
   rcases hq with hq | hq
   ·have hq1 : (quoteL acc == s.toList) = true := by rw [ByteArray.toList_eq]; simpa using hq
    have hu : unq s.data.toList = some acc := by unfold unq; rw [hr, if_pos hq]
    have HT := Lib.hid (show unqT s.data.toList = acc by unfold unqT; rw [hu]; rfl)
    have HE := Lib.hid (show unqE s.data.toList = 0 by unfold unqE; rw [hu]; rfl)
    clear hq hu hr
    go_wp2_with fail
    go_ret2
    exact ⟨by rw [HT.out, HE.out]; rfl, hf.trans hf2⟩
   ·have hq1 : (quoteL acc == s.toList) = false := by rw [ByteArray.toList_eq]; simpa using hq
    have hu : unq s.data.toList = none := by unfold unq; rw [hr, if_neg hq]
    have HT := Lib.hid (show unqT s.data.toList = [] by unfold unqT; rw [hu]; rfl)
    have HE := Lib.hid (show unqE s.data.toList = 5 by unfold unqE; rw [hu]; rfl)
    clear hq hu hr
    go_wp2_with fail
    go_ret2
    exact ⟨by rw [HT.out, HE.out]; rfl, hf.trans hf2⟩
end Go.Proofs.YtpjkfeehgookkaaGreatDoor
namespace Go.Proofs.YtpjkfeehgookkaaGreatDoor
open Go.RowKit
def UInv (s : List UInt8) (acc t : List UInt8) : Prop := ∀ l, quoteL l = s ↔ ∃ m, l = acc ++ m ∧ quotes m = t
theorem UInv.step {s acc t : List UInt8} {c : UInt8} (h : UInv s acc (quo c ++ t)) : UInv s (acc ++ [c]) t := by
 intro l
 rw [h l]
 constructor
 ·rintro ⟨m, rfl, hm⟩
  cases m with
  | nil => have := quo_ne c; simp [quotes] at hm; exact absurd hm.1 this
  | cons d m =>
   simp only [quotes, List.flatMap_cons] at hm
   obtain ⟨rfl, h2⟩ := quo_split hm
   exact ⟨m, by simp, h2⟩
 ·rintro ⟨m, rfl, hm⟩
  exact ⟨c :: m, by simp, by simp only [quotes, List.flatMap_cons] at hm ⊢; rw [hm]⟩
theorem UInv.end {s acc : List UInt8} (h : UInv s acc []) : unq s = some acc := by
 rw [unq_iff, h acc]
 exact ⟨[], by simp, rfl⟩
theorem UInv.none {s acc t : List UInt8} (h : UInv s acc t) (ht : t ≠ []) (hn : ∀ c : UInt8, ¬ quo c <+: t) : unq s = none := by
 cases e : unq s with
 | none => rfl
 | some l =>
  obtain ⟨m, _, hm⟩ := (h l).1 (unq_some e)
  cases m with
  | nil => exact absurd hm.symm ht
  | cons d m => exact absurd ⟨quotes m, by rw [← hm]; rfl⟩ (hn d)
theorem unq_n {s : List UInt8} (h : unq s = none) : unqT s = [] ∧ unqE s = 5 := by unfold unqT unqE; rw [h]; exact ⟨rfl, rfl⟩
theorem unq_s {s l : List UInt8} (h : unq s = some l) : unqT s = l ∧ unqE s = 0 := by unfold unqT unqE; rw [h]; exact ⟨rfl, rfl⟩
theorem OwnB.none (w : World) : OwnB w.heap.size (.slice (some ⟨w.heap.size, 0, none⟩) 0 0) [] (w.alloc (.cells #[] 5)) :=
 ⟨World.ownsRow_lit w #[] 0 (Nat.zero_le _) (by decide) rfl, fun g hg => by simp [Value.ownBlock] at hg; omega⟩
theorem ext_list (t : ByteArray) (n : Nat) : (t.extract 0 n).toList = t.data.toList.take n := by
 rw [ByteArray.toList_eq]; simp
theorem pfx_iff (t : ByteArray) (q : List UInt8) : q <+: t.data.toList ↔ q.length ≤ t.size ∧ ((t.extract 0 q.length).toList == q) = true := by
 rw [ext_list, beq_iff_eq]
 constructor
 ·intro h
  refine ⟨by have := h.length_le; rwa [size_list] at this, ?_⟩
  exact (List.prefix_iff_eq_take.1 h).symm
 ·rintro ⟨_, h⟩
  rw [← h]
  exact List.take_prefix _ _
end Go.Proofs.YtpjkfeehgookkaaGreatDoor
namespace Go.Proofs.YtpjkfeehgookkaaGreatDoor
open Go.RowKit
def smallI (x : Int) : Bool := (decide (97 ≤ x) && decide (x ≤ 122)) || x == 95
def greatI (x : Int) : Bool := decide (65 ≤ x) && decide (x ≤ 90)
def digitI (x : Int) : Bool := decide (48 ≤ x) && decide (x ≤ 57)
theorem small_any (x : Int) (w : World) : Calls Tryz.prog 41 #[.int .i32 x] w fun e w' => e = .returned (.bool (smallI x)) ∧ w = w' := by
 go_enter Tryz.func41, Tryz.ntmps41
 go_wp2_with fail
 all_goals go_ret
 all_goals exact ⟨ret_bool (by rw [Bool.eq_iff_iff]; simp [smallI]; omega), rfl⟩
theorem great_any (x : Int) (w : World) : Calls Tryz.prog 44 #[.int .i32 x] w fun e w' => e = .returned (.bool (greatI x)) ∧ w = w' := by
 go_enter Tryz.func44, Tryz.ntmps44
 go_wp2_with fail
 all_goals go_ret
 all_goals exact ⟨ret_bool (by rw [Bool.eq_iff_iff]; simp [greatI]; omega), rfl⟩
theorem digit_any (x : Int) (w : World) : Calls Tryz.prog 45 #[.int .i32 x] w fun e w' => e = .returned (.bool (digitI x)) ∧ w = w' := by
 go_enter Tryz.func45, Tryz.ntmps45
 go_wp2_with fail
 all_goals go_ret
 all_goals exact ⟨ret_bool (by rw [Bool.eq_iff_iff]; simp [digitI]; omega), rfl⟩
theorem smallI_byte (c : UInt8) : smallI ((c.toNat : Nat) : Int) = smallB c := by
 have h : ∀ c : Fin 256, smallI (((UInt8.ofNat c.val).toNat : Nat) : Int) = smallB (UInt8.ofNat c.val) := by decide +kernel
 simpa using h ⟨c.toNat, c.toNat_lt⟩
theorem greatI_byte (c : UInt8) : greatI ((c.toNat : Nat) : Int) = greatB c := by
 have h : ∀ c : Fin 256, greatI (((UInt8.ofNat c.val).toNat : Nat) : Int) = greatB (UInt8.ofNat c.val) := by decide +kernel
 simpa using h ⟨c.toNat, c.toNat_lt⟩
theorem digitI_byte (c : UInt8) : digitI ((c.toNat : Nat) : Int) = isDig c := by
 have h : ∀ c : Fin 256, digitI (((UInt8.ofNat c.val).toNat : Nat) : Int) = isDig (UInt8.ofNat c.val) := by decide +kernel
 simpa using h ⟨c.toNat, c.toNat_lt⟩
theorem classes_high (x : Int) (h : 128 ≤ x) : smallI x = false ∧ greatI x = false ∧ digitI x = false := by
 refine ⟨?_, ?_, ?_⟩
 ·rw [Bool.eq_false_iff]; intro e; simp [smallI] at e; omega
 ·rw [Bool.eq_false_iff]; intro e; simp [greatI] at e; omega
 ·rw [Bool.eq_false_iff]; intro e; simp [digitI] at e; omega
theorem body_high (c : UInt8) (h : 128 ≤ c.toNat) : bodyB c = false := by
 obtain ⟨h1, h2, h3⟩ := classes_high ((c.toNat : Nat) : Int) (by omega)
 rw [smallI_byte] at h1; rw [greatI_byte] at h2; rw [digitI_byte] at h3
 simp [bodyB, h1, h2, h3]
theorem runL_at (s : ByteArray) (k : Nat) (hk : k ≤ s.size) (h : ∀ j (hj : j < k), bodyB (s[j]'(by omega)) = true) (he : k = s.size ∨ ∃ hk2 : k < s.size, bodyB s[k] = false) :
  runL s.data.toList = s.data.toList.take k := by
 unfold runL
 have hs : s.data.toList = s.data.toList.take k ++ s.data.toList.drop k := (List.take_append_drop k _).symm
 conv => lhs; rw [hs]
 rw [List.takeWhile_append_of_pos]
 ·rcases he with rfl | ⟨hk2, hb⟩
  ·rw [List.drop_of_length_le (by rw [size_list]; exact Nat.le_refl _)]; simp
  ·rw [drop_cons s k hk2, List.takeWhile_cons_of_neg (by simp [hb])]; simp
 ·intro a ha
  obtain ⟨j, hj, rfl⟩ := List.getElem_of_mem ha
  simp only [List.length_take] at hj
  have := h j (by omega)
  rw [List.getElem_take]
  exact this
theorem ext_take (s : ByteArray) (k : Nat) : s.extract 0 k = ⟨(s.data.toList.take k).toArray⟩ := by
 apply ByteArray.ext
 apply Array.ext'
 simp
set_option maxRecDepth 100000 in
theorem run_any (s : ByteArray) (hs : s.size ≤ 140737488355328) (w : World) :
  Calls Tryz.prog 42 #[.string s] w fun e w' => e = .returned (.string ⟨(runL s.data.toList).toArray⟩) ∧ Fr [] w w' := by
 go_enter Tryz.func42, Tryz.ntmps42
 go_wp2_with fail
 have hit0 : (w.iter s 0).heap[w.heap.size]? = some (.stringIter s 0) := World.iter_heap w s 0
 have hf0 : Fr [] w (w.iter s 0) := (Fr.refl [] w).alloc (.stringIter s 0)
 generalize w.iter s 0 = w1 at *
 have hB : w.heap.size ≤ w.heap.size := Nat.le_refl _
 generalize hb0 : w.heap.size = B at hit0 hB ⊢
 go_loopw [] (fun wr => ∃ pos : Nat, wr.heap[B]? = some (.stringIter s pos) ∧ pos ≤ s.size ∧ Fr [] w wr ∧ Hid (∀ j (hj : j < pos) (hj2 : j < s.size), bodyB s[j] = true)) (fun wr => s.size - wr.iterPos B)
 case atStart => exact ⟨0, hit0, by omega, hf0, Lib.hid (fun j hj _ => absurd hj (by omega))⟩
 case round =>
  obtain ⟨pos, hit, hps, hf, HA⟩ := hrel
  clear hit0 hf0
  by_cases hp : pos < s.size
  ·have hnx : ∀ ty, (Instr.next (.pointer (some ⟨B, 0, none⟩)) true ty).run Tryz.prog wr = _ := fun ty => Lib.run_next_any_at wr B s pos ty hit hp
   have hit2 := Lib.iterAt_heap wr B s pos (pos + (Utf8.decode s pos).2) hit
   have hfb : Fr [] w (wr.iterAt B s (pos + (Utf8.decode s pos).2)) := Fr.of_below (Lib.below_iterAt hf.below0 (k := B) (by omega) s _)
   by_cases hbd : bodyB s[pos] = true
   ·have hlo : s[pos].toNat < 128 := by
     rcases Nat.lt_or_ge s[pos].toNat 128 with h | h
     ·exact h
     ·rw [body_high _ h] at hbd; cases hbd
    have hd := decode_ascii s pos hp hlo
    rw [hd] at hnx hit2 hfb
    have HA2 : Hid (∀ j (hj : j < pos + 1) (hj2 : j < s.size), bodyB s[j] = true) := Lib.hid (fun j hj hj2 => by
     rcases Nat.lt_or_ge j pos with h | h
     ·exact HA.out j h hj2
     ·have : j = pos := by omega
      subst this; exact hbd)
    have key : smallI ((s[pos].toNat : Nat) : Int) = true ∨ (smallI ((s[pos].toNat : Nat) : Int) = false ∧ (greatI ((s[pos].toNat : Nat) : Int) = true ∨ (greatI ((s[pos].toNat : Nat) : Int) = false ∧ digitI ((s[pos].toNat : Nat) : Int) = true))) := by
     rw [smallI_byte, greatI_byte, digitI_byte]
     unfold bodyB at hbd
     cases h1 : smallB s[pos] <;> cases h2 : greatB s[pos] <;> simp_all
    clear hbd hd hlo
    rcases key with e1 | ⟨e1, e2 | ⟨e2, e3⟩⟩
    ·go_wp2_with fail
     refine (small_any _ _).mono ?_; rintro e x1 ⟨rfl, rfl⟩; go_wp2_with fail
     go_roundw
     case rel => exact ⟨pos + 1, hit2, by omega, hfb, HA2⟩
     case measure => simp only [World.iterPos, hit2, hit]; omega
    ·go_wp2_with fail
     refine (small_any _ _).mono ?_; rintro e x1 ⟨rfl, rfl⟩; go_wp2_with fail
     refine (great_any _ _).mono ?_; rintro e x1 ⟨rfl, rfl⟩; go_wp2_with fail
     go_roundw
     case rel => exact ⟨pos + 1, hit2, by omega, hfb, HA2⟩
     case measure => simp only [World.iterPos, hit2, hit]; omega
    ·go_wp2_with fail
     refine (small_any _ _).mono ?_; rintro e x1 ⟨rfl, rfl⟩; go_wp2_with fail
     refine (great_any _ _).mono ?_; rintro e x1 ⟨rfl, rfl⟩; go_wp2_with fail
     refine (digit_any _ _).mono ?_; rintro e x1 ⟨rfl, rfl⟩; go_wp2_with fail
     go_roundw
     case rel => exact ⟨pos + 1, hit2, by omega, hfb, HA2⟩
     case measure => simp only [World.iterPos, hit2, hit]; omega
   ·have hr := runL_at s pos hps (fun j hj => HA.out j hj (by omega)) (.inr ⟨hp, by simpa using hbd⟩)
    have HR := Lib.hid (show s.extract 0 pos = ⟨(runL s.data.toList).toArray⟩ by rw [hr]; exact ext_take s pos)
    obtain ⟨e1, e2, e3⟩ : smallI ((Utf8.decode s pos).1 : Int) = false ∧ greatI ((Utf8.decode s pos).1 : Int) = false ∧ digitI ((Utf8.decode s pos).1 : Int) = false := by
     rcases Nat.lt_or_ge s[pos].toNat 128 with h | h
     ·rw [decode_ascii s pos hp h, smallI_byte, greatI_byte, digitI_byte]
      unfold bodyB at hbd
      cases h1 : smallB s[pos] <;> cases h2 : greatB s[pos] <;> simp_all
     ·have := (decode_high s pos hp h).1
      exact classes_high _ (by omega)
    have q1 : 0 ≤ (pos : Int) ∧ (pos : Int) ≤ (s.size : Int) := by omega
    clear hbd hr
    go_wp2_with fail
    refine (small_any _ _).mono ?_; rintro e x1 ⟨rfl, rfl⟩; go_wp2_with fail
    refine (great_any _ _).mono ?_; rintro e x1 ⟨rfl, rfl⟩; go_wp2_with fail
    refine (digit_any _ _).mono ?_; rintro e x1 ⟨rfl, rfl⟩; go_wp2_with fail
    go_ret
    exact ⟨by rw [← HR.out]; rfl, hfb⟩
  ·have hnx : ∀ ty, (Instr.next (.pointer (some ⟨B, 0, none⟩)) true ty).run Tryz.prog wr = _ := fun ty => Lib.run_next_end_at wr B s pos ty hit hp
   have hpe : pos = s.size := by omega
   subst hpe
   have hr := runL_at s s.size (Nat.le_refl _) (fun j hj => HA.out j hj hj) (.inl rfl)
   rw [List.take_of_length_le (by rw [size_list]; exact Nat.le_refl _)] at hr
   have HR := Lib.hid hr
   clear hr
   go_wp2_with fail
   go_ret
   exact ⟨by rw [HR.out]; rfl, hf⟩
end Go.Proofs.YtpjkfeehgookkaaGreatDoor
namespace Go.Proofs.YtpjkfeehgookkaaGreatDoor
open Go.RowKit
theorem nMax : 0 < Tryz.prog.globals.size := of_decide_eq_true (by kernel_rfl)
structure EnvL (w : World) : Prop where
 env : Env w
 max : ∃ m, w.cell? ⟨0, 0, none⟩ = some (.int .i64 m)
theorem EnvL.fr {w w' : World} (h : EnvL w) (hb : Fr [] w w') : EnvL w' := by
 obtain ⟨he, m, hm⟩ := h
 refine ⟨he.fr hb, m, ?_⟩
 rw [hb.cell (p := ⟨0, 0, none⟩) (Nat.lt_of_lt_of_le nMax he.size) (fun h => by cases h)]
 exact hm
theorem contains_iff (s sub : List UInt8) : Lib.contains s sub = true ↔ sub <:+: s := by
 unfold Lib.contains
 rw [decide_eq_true_eq]
 induction s with
 | nil =>
  unfold Lib.index
  cases sub with
  | nil => simp
  | cons a r => simp
 | cons b l ih =>
  rw [Lib.index]
  by_cases hp : sub.isPrefixOf (b :: l) = true
  ·rw [if_pos hp]
   exact ⟨fun _ => (List.isPrefixOf_iff_prefix.1 hp).isInfix, fun _ => by omega⟩
  ·rw [if_neg hp]
   have hge : ∀ l : List UInt8, -1 ≤ Lib.index l sub := by
    intro l
    induction l with
    | nil => unfold Lib.index; split <;> omega
    | cons c r ih2 =>
     rw [Lib.index]
     split
     ·omega
     ·split
      ·omega
      ·omega
   have := hge l
   by_cases h1 : Lib.index l sub = -1
   ·rw [h1] at ih ⊢
    simp only [beq_self_eq_true, if_true]
    constructor
    ·intro h; omega
    ·intro h
     rcases List.infix_cons_iff.1 h with h | h
     ·exact absurd (List.isPrefixOf_iff_prefix.2 h) hp
     ·have := ih.2 h; omega
   ·have h2 : (Lib.index l sub == -1) = false := by rw [beq_eq_false_iff_ne]; exact h1
    rw [h2]
    simp only [Bool.false_eq_true, if_false]
    constructor
    ·intro _; exact (ih.1 (by omega)).trans (List.suffix_cons b l).isInfix
    ·intro _; omega
theorem index1_iff (s : List UInt8) (c : UInt8) : decide (0 ≤ Lib.indexByte s c) = s.contains c := by
 rw [Bool.eq_iff_iff, decide_eq_true_eq, List.contains_iff_mem]
 have hge := Lib.indexByte_ge s c
 constructor
 ·intro h
  obtain ⟨o, ho⟩ : ∃ o : Nat, Lib.indexByte s c = o := ⟨(Lib.indexByte s c).toNat, by omega⟩
  exact List.mem_of_getElem? (Lib.indexByte_some ho).1
 ·intro h
  rcases Int.lt_or_le (Lib.indexByte s c) 0 with h1 | h1
  ·obtain ⟨k, hk⟩ := List.mem_iff_getElem?.1 h
   exact absurd hk (Lib.indexByte_none (by omega) k)
  ·exact h1
theorem Contains_blank (s : ByteArray) (w : World) : Calls Tryz.prog 73 #[.string s, .string ⟨#[32]⟩] w fun e w' => e = .returned (.bool (s.data.toList.contains 32)) ∧ w' = w := by
 have h := Tryz.strings_Contains_one s 32 w
 rw [index1_iff] at h
 exact h
theorem Contains_words (s : ByteArray) (w : World) (hE : EnvL w) (h0 : s.data.toList ≠ []) (hb : (32 : UInt8) ∉ s.data.toList) (W : ByteArray) (hW : W.data.toList = wordsB) (sub : ByteArray) (hsub : sub.data.toList = [32] ++ s.data.toList ++ [32]) :
  Calls Tryz.prog 73 #[.string W, .string sub] w fun e w' => e = .returned (.bool (isWordB s.data.toList)) ∧ w' = w := by
 obtain ⟨_, m, hm⟩ := hE
 have h := Tryz.strings_Contains W sub m w (by rw [← size_list, hW]; decide) hm
 have e : Lib.contains W.data.toList sub.data.toList = isWordB s.data.toList := by
  rw [Bool.eq_iff_iff, contains_iff, isWord_iff _ h0 hb, hW, hsub]
 rw [e] at h
 exact h
theorem isWord_nil : isWordB [] = false := by decide
theorem isWord_blank {s : List UInt8} (h : (32 : UInt8) ∈ s) : isWordB s = false := by
 rw [Bool.eq_false_iff]
 intro hw
 exact (words_facts s (by simpa [isWordB] using hw)).2 h
set_option maxRecDepth 100000 in
theorem IsWord_any (s : ByteArray) (hs : s.size ≤ 1000000) (w : World) (hE : EnvL w) :
  Calls Tryz.prog 43 #[.string s] w fun e w' => e = .returned (.bool (isWordB s.data.toList)) ∧ Fr [] w w' := by
 by_cases h0 : s.data.toList = []
 ·have e0 : s.toList.isEmpty = true := by rw [ByteArray.toList_eq, h0]; rfl
  have e1 : s.toList = [] := by rw [ByteArray.toList_eq, h0]
  rw [h0, isWord_nil]
  go_enter Tryz.func43, Tryz.ntmps43
  go_wp2_with fail
  go_ret
  exact ⟨rfl, Fr.refl _ _⟩
 ·have e1 : ¬ s.toList = [] := by rw [ByteArray.toList_eq]; exact h0
  have e0 : s.toList.isEmpty = false := by rw [ByteArray.toList_eq]; cases h : s.data.toList with | nil => exact absurd h h0 | cons _ _ => rfl
  by_cases hb : (32 : UInt8) ∈ s.data.toList
  ·have c1 := Lib.hid (Contains_blank s w)
   have e2 : s.data.toList.contains 32 = true := List.contains_iff_mem.2 hb
   rw [isWord_blank hb]
   go_enter Tryz.func43, Tryz.ntmps43
   go_wp2_with fail
   refine c1.out.mono ?_; rintro e x1 ⟨rfl, rfl⟩; go_wp2_with fail
   go_ret
   exact ⟨rfl, Fr.refl _ _⟩
  ·have c1 := Lib.hid (Contains_blank s w)
   have e2 : s.data.toList.contains 32 = false := by rw [Bool.eq_false_iff]; intro h; exact hb (List.contains_iff_mem.1 h)
   have c2 := fun W hW sub hsub => Lib.hid (Contains_words s w hE h0 hb W hW sub hsub)
   go_enter Tryz.func43, Tryz.ntmps43
   go_wp2_with fail
   refine c1.out.mono ?_; rintro e x1 ⟨rfl, rfl⟩; go_wp2_with fail
   refine (c2 _ (by decide) _ (by simp)).out.mono ?_; rintro e x1 ⟨rfl, rfl⟩; go_wp2_with fail
   go_ret
   exact ⟨rfl, Fr.refl _ _⟩
def qrest (s : ByteArray) (i : Nat) : Option Nat := (qlen (s.data.toList.drop i)).map (· + i)
theorem qrest_end (s : ByteArray) (i : Nat) (h : s.size ≤ i) : qrest s i = none := by
 unfold qrest; rw [List.drop_of_length_le (by rw [size_list]; exact h)]; rfl
theorem qrest_quote (s : ByteArray) (i : Nat) (h : i < s.size) (hc : s[i] = 34) : qrest s i = some (i + 1) := by
 unfold qrest; rw [drop_cons s i h, hc, qlen_end]; simp [Nat.add_comm]
theorem qrest_other (s : ByteArray) (i : Nat) (h : i < s.size) (h1 : s[i] ≠ 92) (h2 : s[i] ≠ 34) : qrest s i = qrest s (i + 1) := by
 unfold qrest; rw [drop_cons s i h, qlen_other _ _ h1 h2]
 cases qlen (s.data.toList.drop (i + 1)) with
 | none => rfl
 | some k => simp; omega
theorem qrest_esc (s : ByteArray) (i : Nat) (h : i < s.size) (hc : s[i] = 92) : qrest s i = qrest s (i + 2) := by
 unfold qrest; rw [drop_cons s i h, hc]
 by_cases h2 : i + 1 < s.size
 ·rw [drop_cons s (i + 1) h2, qlen_esc]
  cases qlen (s.data.toList.drop (i + 1 + 1)) with
  | none => rfl
  | some k => simp; omega
 ·rw [List.drop_of_length_le (by rw [size_list]; omega), List.drop_of_length_le (by rw [size_list]; omega), qlen_one]; rfl
def quoL (l : List UInt8) : Option (List UInt8) := (qlen (l.drop 1)).map fun k => l.take (1 + k)
set_option maxRecDepth 100000 in
theorem quoted_any (s : ByteArray) (hs : s.size ≤ 1000000) (w : World) :
  Calls Tryz.prog 47 #[.string s] w fun e w' => e = .returned (.tuple #[.string ⟨((quoL s.data.toList).getD []).toArray⟩, .bool (quoL s.data.toList).isSome]) ∧ w = w' := by
 have e0 : quoL s.data.toList = (qrest s 1).map fun k => s.data.toList.take k := by
  unfold quoL qrest
  cases qlen (s.data.toList.drop 1) with
  | none => rfl
  | some k => simp [Nat.add_comm]
 rw [e0]
 clear e0
 have HQ : Hid (qrest s 1 = qrest s 1) := Lib.hid rfl
 generalize hg : qrest s 1 = Q at HQ ⊢
 have HG := Lib.hid hg
 clear hg
 go_enter Tryz.func47, Tryz.ntmps47
 go_wp2_with fail
 go_loop [4] (fun i => ∃ k : Nat, i = .int .i64 k ∧ k ≤ s.size + 2 ∧ Hid (qrest s k = Q)) (fun i => s.size - (intOf i).toNat)
 case atStart => exact ⟨1, rfl, by omega, HG⟩
 case round =>
  obtain ⟨k, rfl, hk, HK⟩ := hrel
  clear HG HQ
  by_cases hlt : k < s.size
  ·by_cases h1 : s[k] = 92
   ·have HK2 := Lib.hid ((qrest_esc s k hlt h1).symm.trans HK.out)
    have b1 : (((s[k].toNat : Nat) : Int) == 92) = true := by rw [h1]; rfl
    clear h1
    go_wp2_with fail
    go_round
    case rel => exact ⟨k + 2, by go_num, by omega, HK2⟩
    case measure => simp [intOf]; omega
   ·have b1 : (((s[k].toNat : Nat) : Int) == 92) = false := by
     rw [beq_eq_false_iff_ne]; intro h; apply h1; apply UInt8.toNat_inj.1; have h9 : (92 : UInt8).toNat = 92 := rfl; omega
    by_cases h2 : s[k] = 34
    ·have hq := (qrest_quote s k hlt h2).symm.trans HK.out
     subst hq
     have b2 : (((s[k].toNat : Nat) : Int) == 34) = true := by rw [h2]; rfl
     have q1 : 0 ≤ (k : Int) + 1 ∧ (k : Int) + 1 ≤ (s.size : Int) := by omega
     clear h1 h2 HK
     go_wp2_with fail
     go_ret2
     exact ⟨by rw [← ext_take]; rfl, rfl⟩
    ·have b2 : (((s[k].toNat : Nat) : Int) == 34) = false := by
      rw [beq_eq_false_iff_ne]; intro h; apply h2; apply UInt8.toNat_inj.1; have h9 : (34 : UInt8).toNat = 34 := rfl; omega
     have HK2 := Lib.hid ((qrest_other s k hlt h1 h2).symm.trans HK.out)
     clear h1 h2
     go_wp2_with fail
     go_round
     case rel => exact ⟨k + 1, by go_num, by omega, HK2⟩
     case measure => simp [intOf]; omega
  ·have hq := (qrest_end s k (by omega)).symm.trans HK.out
   subst hq
   go_wp2_with fail
   go_ret2
   exact ⟨rfl, rfl⟩
end Go.Proofs.YtpjkfeehgookkaaGreatDoor
namespace Go.Proofs.YtpjkfeehgookkaaGreatDoor
open Go.RowKit Go.Shelf
def AbC {β : Type} (Bs B : Nat) (J : β → World → Prop) : Prop := AbidesFrom B J ∧ ∀ s W v, J s W → J s (W.setCell ⟨Bs, 0, none⟩ v)
def CellSeq {α : Type} (F : Fence) (n : Nat) (P : Program) (gf : Nat) (lb : Array Value) (encs : α → Array Value) (Bs B : Nat) (S Sp : List α → Prop) (N : Nat) (w : World) : Prop :=
 ∀ (l : Nat) (J Jx : List α → World → Prop) (W : World), Below B w W → AbC Bs W.heap.size J → AbC Bs W.heap.size Jx →
  (∀ pre x W1, J pre W1 → pre.length < N → YieldAt F (n - 1) P l (encs x) W1 fun e W' =>
   (e = .returned (.bool true) ∧ J (pre ++ [x]) W' ∧ Below B W1 W') ∨ (e = .returned (.bool false) ∧ Jx (pre ++ [x]) W')) →
  J [] W →
  CallsIn F n P gf (#[.func (.yield l) #[] #[]] ++ lb) W fun e W' => (∃ v, e = .returned v) ∧ ((∃ xs, S xs ∧ J xs W') ∨ (∃ pre, Sp pre ∧ Jx pre W'))
theorem putObj_setCell_heap {W : World} {b k : Nat} {v : Value} (h : k ≠ b) : (W.setCell ⟨b, 0, none⟩ v).heap[k]? = W.heap[k]? := by
 simp [World.setCell, Array.getElem?_modify, Ne.symm h]
section
variable {F : Fence} {n : Nat} {P : Program}
theorem range_cell {α : Type} {g : Operand} {ps : Array Tmp} {assign body : Code} {Q : Exit → Act → World → Prop} {a : Act} {w : World}
  (hro : F.round = none) (h1 : 1 ≤ n) {gf : Nat} {lb : Array Value} (hg : a.eval g = .func (.func gf) #[] lb) (hFg : F.fn gf) (eg : ∀ args w, (callFunc gf args).run P w = .ok (.enter gf args) w)
  {encs : α → Array Value} {S Sp : List α → Prop} {N Bs : Nat} (hBs : Bs < w.heap.size) (hseq : CellSeq F (n - 1) P gf lb encs Bs w.heap.size S Sp N w) (hps : ∀ x, (encs x).size = ps.size)
  (I Ix : List α → World → Prop) (hI : OwnFrom w.heap.size I) (hIc : ∀ s W v, I s W → I s (W.setCell ⟨Bs, 0, none⟩ v)) (hIx : OwnFrom w.heap.size Ix) (hIxc : ∀ s W v, Ix s W → Ix s (W.setCell ⟨Bs, 0, none⟩ v)) (h0 : I [] w) (a₁ : α → Act)
  (hassign : ∀ (l : Nat) (x : α) (W : World) (K : Act → World → Prop), K (a₁ x) W →
   assign.wpIn (F.inRound l) (n - 1 - 1) P (Exit.then K (fun _ _ _ => False)) { tmps := (ps.zip (encs x)).foldl (fun t (p, v) => t.setIfInBounds p v) a.tmps, defers := [] } W)
  (hbody : ∀ (l : Nat) (pre : List α) (x : α) (W : World), I pre W → pre.length < N → body.wpIn (F.inRound l) (n - 1 - 1) P (fun e _ W' => match e with
   | .normal => KeepsOthers W W' ∧ Below w.heap.size W W' ∧ I (pre ++ [x]) W'
   | .ret => KeepsOthers W W' ∧ Ix (pre ++ [x]) W'
   | _ => False) (a₁ x) W)
  (hdone : ∀ (D : Nat) (xs : List α) (W : World), w.heap.size ≤ D → S xs → I xs W → W.heap[D]? = some (.deferred (some [])) → Q .normal { a with defers := { target := .collected D, args := #[] } :: a.defers } W)
  (hstop : ∀ (D : Nat) (pre : List α) (W : World), w.heap.size ≤ D → Sp pre → Ix pre W → W.heap[D]? = some (.deferred (some [])) → Code.ret.wpIn F n P Q { a with defers := { target := .collected D, args := #[] } :: a.defers } W) :
  (Code.rangeFunc g ps assign body).wpIn F n P Q a w := by
 refine wpIn_rangeFunc ?_
 intro fn hfn
 rw [hro]
 obtain ⟨rec, hrec⟩ : ∃ rec : LoopState → Option Code → Loop, rec = fun st pe => { state := st, pending := pe, fn, tmps := a.tmps, params := ps, assign, body, defers := w.heap.size } := ⟨_, rfl⟩
 obtain ⟨W1, hW1⟩ : ∃ W1, (w.alloc (.deferred (some []))).alloc (.loop (rec .ready none)) = W1 := ⟨_, rfl⟩
 have hLoop : W1.heap[w.heap.size + 1]? = some (.loop (rec .ready none)) := by
  have := World.alloc_heap_new (w.alloc (.deferred (some []))) (.loop (rec .ready none))
  rw [World.size_alloc] at this
  rw [← hW1]; exact this
 have hDef : W1.heap[w.heap.size]? = some (.deferred (some [])) := by
  rw [← hW1]; exact (Below.heap_alloc _ _ _ (by simp)).trans (World.alloc_heap_new w _)
 have hI1 : I [] W1 := by rw [← hW1]; exact hI.alloc _ (hI.alloc _ h0)
 have hb1 : Below w.heap.size w W1 := by rw [← hW1]; exact ((Below.refl _ w).alloc (Nat.le_refl _) _).alloc (by simp) _
 refine ⟨w.heap.size + 1, [{ target := .collected w.heap.size, args := #[] }], W1, { target := .fn (.func gf) lb, args := #[.func (.yield (w.heap.size + 1)) #[] #[]] }, W1, gf,
  #[.func (.yield (w.heap.size + 1)) #[] #[]] ++ lb, W1, ?_, ?_, ?_, ?_, fun _ => h1, ?_⟩
 ·rw [← hW1, hrec]; exact run_enterLoop_outer _ _ _ _ _
 ·simp only [resolve, hg]
  simp [go_sem]
 ·intro f' hf'; simp [Target.leads] at hf'; subst hf'; exact hFg
 ·simp [invoke, go_sem, eg]
 ·have cellsOf : ∀ {A B : World} {row : Option Nat}, (∀ r, row = some r → W1.heap.size ≤ r ∧ ∃ o : Obj, A.heap[r]? = some o ∧ o.isWalk = true) → (∀ r, row = some r → w.heap.size ≤ r ∧ ∃ o : Obj, A.heap[r]? = some o ∧ o.isCells = false) :=
   fun hr r e => by obtain ⟨hB, o, ho, hw⟩ := hr r e; exact ⟨Nat.le_trans hb1.size hB, o, ho, Obj.not_cells_of_walk hw⟩
  have nl : w.heap.size + 1 ≠ Bs := by omega
  have nd : w.heap.size ≠ Bs := by omega
  refine (hseq (w.heap.size + 1)
   (fun pre W => I pre W ∧ W.heap[w.heap.size + 1]? = some (.loop (rec .ready none)) ∧ W.heap[w.heap.size]? = some (.deferred (some [])))
   (fun pre W => Ix pre W ∧ W.heap[w.heap.size + 1]? = some (.loop (rec .done (some .ret))) ∧ W.heap[w.heap.size]? = some (.deferred (some [])))
   W1 hb1
   ⟨fun s A B row hs hg' hr => ⟨hI s A B row hs.1 hg' (cellsOf (B := B) hr), (grownBy_keeps hg' (fun r e => (hr r e).2) hs.2.1 rfl).trans hs.2.1, (grownBy_keeps hg' (fun r e => (hr r e).2) hs.2.2 rfl).trans hs.2.2⟩,
    fun s A v hs => ⟨hIc s A v hs.1, (putObj_setCell_heap nl).trans hs.2.1, (putObj_setCell_heap nd).trans hs.2.2⟩⟩
   ⟨fun s A B row hs hg' hr => ⟨hIx s A B row hs.1 hg' (cellsOf (B := B) hr), (grownBy_keeps hg' (fun r e => (hr r e).2) hs.2.1 rfl).trans hs.2.1, (grownBy_keeps hg' (fun r e => (hr r e).2) hs.2.2 rfl).trans hs.2.2⟩,
    fun s A v hs => ⟨hIxc s A v hs.1, (putObj_setCell_heap nl).trans hs.2.1, (putObj_setCell_heap nd).trans hs.2.2⟩⟩
   ?_ ⟨hI1, hLoop, hDef⟩).mono ?_
  ·rintro pre x W ⟨hi, hl, hk⟩ hlen
   have hy := run_yield (P := P) (args := encs x) hl (by rw [hrec]; exact hps x)
   rw [hrec] at hy
   refine ⟨fn, _, assign, body, hy, roundIn_of_wpIn hfn (hassign _ x W _ ⟨_, run_beginRound hl (by rw [hrec]), ?_⟩)⟩
   have busy : (W.putObj (w.heap.size + 1) (.loop { rec .ready none with state := .busy })).heap[w.heap.size + 1]? = some (.loop { rec .ready none with state := .busy }) := World.putObj_heap_same (Array.getElem?_eq_some_iff.1 hl).1
   have defd : (W.putObj (w.heap.size + 1) (.loop { rec .ready none with state := .busy })).heap[w.heap.size]? = some (.deferred (some [])) := (World.putObj_heap_other (by omega)).trans hk
   have bel : ∀ (V : World) (o : Obj), w.heap.size + 1 < V.heap.size → Below w.heap.size V (V.putObj (w.heap.size + 1) o) := fun V o hv => (Below.refl _ V).grown (grownBy_putObj' V (w.heap.size + 1) o) (by omega) (fun k e => by cases e; omega)
   refine wpIn_mono (hbody _ pre x _ (hI.putObj _ hi (by omega) hl rfl) hlen) ?_
   have ends : ∀ (jump : Option Code) (V : World), KeepsOthers (W.putObj (w.heap.size + 1) (.loop { rec .ready none with state := .busy })) V →
     (Instr.endRound (w.heap.size + 1) jump).run P V = .ok (.bool jump.isNone) (V.putObj (w.heap.size + 1) (.loop (rec (if jump.isNone then .ready else .done) jump))) ∧
     V.heap[w.heap.size + 1]? = some (.loop { rec .ready none with state := .busy }) ∧
     (V.putObj (w.heap.size + 1) (.loop (rec (if jump.isNone then .ready else .done) jump))).heap[w.heap.size + 1]? = some (.loop (rec (if jump.isNone then .ready else .done) jump)) ∧
     (V.putObj (w.heap.size + 1) (.loop (rec (if jump.isNone then .ready else .done) jump))).heap[w.heap.size]? = some (.deferred (some [])) := fun jump V hk3 => by
    have hl3 := hk3.same _ _ busy rfl
    have := run_endRound (P := P) jump hl3
    rw [hrec] at this ⊢
    exact ⟨this, by rw [hrec] at hl3; exact hl3, World.putObj_heap_same (Array.getElem?_eq_some_iff.1 hl3).1, (World.putObj_heap_other (by omega)).trans (hk3.same _ _ defd rfl)⟩
   rintro e a3 V hp
   cases e with
   | normal =>
    obtain ⟨hk3, hb3, hi3⟩ := hp
    obtain ⟨hr, hl3, hl4, hk4⟩ := ends none V hk3
    exact ⟨_, _, hr, .inl ⟨rfl, ⟨hI.putObj _ hi3 (by omega) hl3 rfl, hl4, hk4⟩, ((bel _ _ (Array.getElem?_eq_some_iff.1 hl).1).trans hb3).trans (bel _ _ (Array.getElem?_eq_some_iff.1 hl3).1)⟩⟩
   | ret =>
    obtain ⟨hk3, hi3⟩ := hp
    obtain ⟨hr, hl3, hl4, hk4⟩ := ends (some .ret) V hk3
    exact ⟨_, _, hr, .inr ⟨rfl, hIx.putObj _ hi3 (by omega) hl3 rfl, hl4, hk4⟩⟩
   | exit id => exact hp.elim
   | goto t => exact hp.elim
   | panic ch => exact hp.elim
   | outgrown => exact hp.elim
  ·rintro e V ⟨⟨v, rfl⟩, (⟨xs, hS, hi, hl, hk⟩ | ⟨pre, hSp, hi, hl, hk⟩)⟩
   ·exact ⟨none, _, by have := run_endLoop (P := P) hl (by rw [hrec]; simp); rw [hrec] at this; exact this, hdone _ xs _ (Nat.le_refl _) hS (hI.putObj _ hi (by omega) hl rfl) ((World.putObj_heap_other (by omega)).trans hk)⟩
   ·exact ⟨some .ret, _, by have := run_endLoop (P := P) hl (by rw [hrec]; simp); rw [hrec] at this; exact this, hstop _ pre _ (Nat.le_refl _) hSp (hIx.putObj _ hi (by omega) hl rfl) ((World.putObj_heap_other (by omega)).trans hk)⟩
end
end Go.Proofs.YtpjkfeehgookkaaGreatDoor
namespace Go.Proofs.YtpjkfeehgookkaaGreatDoor
open Go.RowKit Go.Shelf
attribute [local go_sem] Oper.semAt_some
def restB (k : Nat) : List UInt8 := ([32] : List UInt8).intercalate (signsL.drop k)
theorem srest_zero : restB 0 = signsB := by decide
theorem srest_step : ∀ k : Fin 19, Lib.indexByte (restB k.val) 32 = ((signsL.getD k.val []).length : Nat) ∧ (restB k.val).take (signsL.getD k.val []).length = signsL.getD k.val [] ∧ (restB k.val).drop ((signsL.getD k.val []).length + 1) = restB (k.val + 1) ∧ (signsL.getD k.val []).length + 1 ≤ (restB k.val).length ∧ 1 ≤ (signsL.getD k.val []).length := by decide +kernel
theorem srest_last : Lib.indexByte (restB 19) 32 = -1 ∧ restB 19 = signsL.getD 19 [] := by decide +kernel
theorem srest_len : ∀ k : Nat, k ≤ 19 → (restB k).length ≤ 100 := by
 have h : ∀ k : Fin 20, (restB k.val).length ≤ 100 := by decide +kernel
 exact fun k hk => h ⟨k, by omega⟩
def strV (l : List UInt8) : Value := .string ⟨l.toArray⟩
theorem set_same {W : World} {b : Nat} {x : Value} {T : TypeId} {fr : Nat × Nat} (h : W.heap[b]? = some (.cells #[x] T fr)) (v : Value) : (W.setCell ⟨b, 0, none⟩ v).heap[b]? = some (.cells #[v] T fr) := by
 simp [World.setCell, Array.getElem?_modify, h]
def lenAt (b : Nat) (w : World) : Nat := match w.cell? ⟨b, 0, none⟩ with
 | some (.string s) => s.size
 | _ => 0
set_option maxHeartbeats 1000000 in
set_option maxRecDepth 100000 in
theorem split_in (n : Nat) (hn : 1 ≤ n) (b B : Nat) (hB : b + 3 ≤ B) (w : World)
  (hs : w.heap[b]? = some (.cells #[strV signsB] 9 (0, 0))) (hsep : w.heap[b + 1]? = some (.cells #[strV [32]] 9 (0, 0))) (hsv : w.heap[b + 2]? = some (.cells #[.int .i64 0] 3 (0, 0))) :
  CellSeq Fence.wide n Tryz.prog 130 #[.pointer (some ⟨b + 1, 0, none⟩), .pointer (some ⟨b, 0, none⟩), .pointer (some ⟨b + 2, 0, none⟩)] (fun x : List UInt8 => #[strV x]) b B (fun xs => xs = signsL) (fun pre => pre <+: signsL) 20 w := by
 intro l J Jx W hW hJ hJx hY h0
 refine callsIn_of_wp Tryz.func130 rfl trivial ?_ rfl
 simp only [Tryz.ntmps130, List.size_toArray, List.length_cons, List.length_nil, Nat.reduceAdd, Nat.reduceSub, Array.replicate_succ, Array.replicate_zero, List.push_toArray, List.append_toArray, List.nil_append, List.cons_append]
 have cs : W.cell? ⟨b, 0, none⟩ = some (strV signsB) := by rw [cell_of ((hW.block b (by omega)).trans hs)]; rfl
 have cp : W.cell? ⟨b + 1, 0, none⟩ = some (strV [32]) := by rw [cell_of ((hW.block (b + 1) (by omega)).trans hsep)]; rfl
 have cv : W.cell? ⟨b + 2, 0, none⟩ = some (.int .i64 0) := by rw [cell_of ((hW.block (b + 2) (by omega)).trans hsv)]; rfl
 have fz : W.frozen? ⟨b, 0, none⟩ = false := frozen_of ((hW.block b (by omega)).trans hs) 0
 unfold strV at cp
 gi_wp2
 gi_loopw [] (fun wr => ∃ k : Nat, k ≤ 19 ∧ wr.heap[b]? = some (.cells #[strV (restB k)] 9 (0, 0)) ∧ wr.heap[b + 1]? = some (.cells #[strV [32]] 9 (0, 0)) ∧ wr.heap[b + 2]? = some (.cells #[.int .i64 0] 3 (0, 0)) ∧ J (signsL.take k) wr) (fun wr => lenAt b wr)
 case atStart => exact ⟨0, by omega, by rw [srest_zero]; exact (hW.block b (by omega)).trans hs, (hW.block (b + 1) (by omega)).trans hsep, (hW.block (b + 2) (by omega)).trans hsv, h0⟩
 case round =>
  obtain ⟨k, hk, hb0, hb1, hb2, hJk⟩ := hrel
  have cs' : wr.cell? ⟨b, 0, none⟩ = some (strV (restB k)) := cell_of hb0 0
  have fz' : wr.frozen? ⟨b, 0, none⟩ = false := frozen_of hb0 0
  have cp' : wr.cell? ⟨b + 1, 0, none⟩ = some (.string ⟨#[32]⟩) := cell_of hb1 0
  have cv' : wr.cell? ⟨b + 2, 0, none⟩ = some (.int .i64 0) := cell_of hb2 0
  clear cs cp cv fz
  by_cases hlt : k < 19
  ·obtain ⟨i1, i2, i3, i4, i5⟩ := srest_step ⟨k, hlt⟩
   simp only at i1 i2 i3 i4 i5
   have hlen : (signsL.take k).length = k := by rw [List.length_take]; exact Nat.min_eq_left (by show k ≤ 20; omega)
   have htk : signsL.take k ++ [signsL.getD k []] = signsL.take (k + 1) := by
    rw [List.take_add_one, List.getD_eq_getElem?_getD, List.getElem?_eq_getElem (by show k < 20; omega)]; rfl
   obtain ⟨m, hm⟩ : ∃ m, (signsL.getD k []).length = m := ⟨_, rfl⟩
   obtain ⟨R, hRR⟩ : ∃ R : ByteArray, R = ⟨(restB k).toArray⟩ := ⟨_, rfl⟩
   have hRs : R.size = (restB k).length := by rw [hRR]; rfl
   have hX : strV (signsL.getD k []) = .string (R.extract 0 m) := by
    rw [ext_take, hRR, ← hm]
    show strV _ = .string ⟨(List.take _ (restB k)).toArray⟩
    rw [i2]; rfl
   have hX2 : Value.string (R.extract (m + 1) R.size) = strV (restB (k + 1)) := by
    rw [← i3, hm]
    have e : R.extract (m + 1) R.size = ⟨((restB k).drop (m + 1)).toArray⟩ := by
     apply ByteArray.ext
     apply Array.ext'
     have := Lib.extract_to_end R (m + 1)
     rw [this, hRR]
    rw [e]; rfl
   have hY1 := hY (signsL.take k) (signsL.getD k []) wr hJk (by omega)
   rw [hX, htk] at hY1
   obtain ⟨fn, tmps, assign, body, hy, hR⟩ := hY1
   have hix := Tryz.strings_Index_one R 32 wr
   have i1' : Lib.indexByte R.data.toList 32 = (m : Nat) := by rw [hRR, ← hm]; exact i1
   rw [i1'] at hix
   have cs2 : wr.cell? ⟨b, 0, none⟩ = some (.string R) := by rw [cs', hRR]; rfl
   have hmR : m + 1 ≤ R.size := by omega
   have hRb : R.size ≤ 100 := by rw [hRs]; exact srest_len k hk
   have q1 : 0 ≤ (m : Int) ∧ (m : Int) ≤ (R.size : Int) := by omega
   have q2 : 0 ≤ (m : Int) + 1 ∧ (m : Int) + 1 ≤ (R.size : Int) := by omega
   have HX2 := Lib.hid hX2
   have HL := Lib.hid (show (restB (k + 1)).length < R.size by rw [← i3, List.length_drop]; omega)
   clear i1 i2 i3 i4 i5 i1' hX hX2 htk hm hRR hRs cs' hY hlen
   gi_wp2_with (refine ⟨trivial, ?_⟩; gi_at_call 94; refine (callsIn_wide.2 hix).mono ?_; rintro e x1 ⟨rfl, rfl⟩)
   refine hR.mono ?_
   rintro e V (⟨rfl, hJ', hk'⟩ | ⟨rfl, hJx'⟩)
   ·have vb0 := (hk'.block b (by omega)).trans hb0
    have vb1 := (hk'.block (b + 1) (by omega)).trans hb1
    have vb2 := (hk'.block (b + 2) (by omega)).trans hb2
    have d0 : V.cell? ⟨b, 0, none⟩ = some (.string R) := by rw [cell_of vb0, ← cs2, cell_of hb0]
    have d1 : V.cell? ⟨b + 1, 0, none⟩ = some (.string ⟨#[32]⟩) := cell_of vb1 0
    have d2 : V.frozen? ⟨b, 0, none⟩ = false := frozen_of vb0 0
    have hl0 : lenAt b x1 = R.size := by unfold lenAt; rw [cs2]
    clear cs2 fz' cp' cv' hJk
    gi_wp2
    rw [HX2.out]
    refine ⟨⟨k + 1, by omega, set_same vb0 _, (putObj_setCell_heap (by omega)).trans vb1, (putObj_setCell_heap (by omega)).trans vb2, hJ.2 _ _ _ hJ'⟩, ?_⟩
    rw [hl0]
    unfold lenAt
    rw [cell_of (set_same vb0 _)]
    exact HL.out
   ·gi_wp2
    refine bodyPost_ret (results_none rfl _ _ _) rfl ?_
    exact ⟨⟨_, rfl⟩, .inr ⟨signsL.take (k + 1), List.take_prefix _ _, hJx'⟩⟩
  ·have hk9 : k = 19 := by omega
   subst hk9
   obtain ⟨R, hRR⟩ : ∃ R : ByteArray, R = ⟨(restB 19).toArray⟩ := ⟨_, rfl⟩
   have hX : strV (signsL.getD 19 []) = .string R := by rw [← srest_last.2, hRR]; rfl
   have hY1 := hY (signsL.take 19) (signsL.getD 19 []) wr hJk (by decide)
   rw [hX, show signsL.take 19 ++ [signsL.getD 19 []] = signsL from by decide] at hY1
   obtain ⟨fn, tmps, assign, body, hy, hR⟩ := hY1
   have hix := Tryz.strings_Index_one R 32 wr
   have i1' : Lib.indexByte R.data.toList 32 = -1 := by rw [hRR]; exact srest_last.1
   rw [i1'] at hix
   have cs2 : wr.cell? ⟨b, 0, none⟩ = some (.string R) := by rw [cs', hRR]; rfl
   clear i1' hX hRR cs' hY
   gi_wp2_with (refine ⟨trivial, ?_⟩; gi_at_call 94; refine (callsIn_wide.2 hix).mono ?_; rintro e x1 ⟨rfl, rfl⟩)
   refine hR.mono ?_
   rintro e V (⟨rfl, hJ', hk'⟩ | ⟨rfl, hJx'⟩)
   ·gi_wp2
    go_end0
    exact ⟨⟨_, rfl⟩, .inl ⟨signsL, rfl, hJ'⟩⟩
   ·gi_wp2
    go_end0
    exact ⟨⟨_, rfl⟩, .inr ⟨signsL, List.prefix_refl _, hJx'⟩⟩
end Go.Proofs.YtpjkfeehgookkaaGreatDoor
namespace Go.Proofs.YtpjkfeehgookkaaGreatDoor
open Go.RowKit Go.Shelf
attribute [local go_sem] Oper.semAt_some
def pfxB (p s : List UInt8) : Bool := p.isPrefixOf s
theorem SlHasPrefix_any (s p : ByteArray) (_hs : s.size ≤ 1000000) (w : World) :
  Calls Tryz.prog 108 #[.string s, .string p] w fun e w' => e = .returned (.bool (pfxB p.data.toList s.data.toList)) ∧ w = w' := by
 have hi := pfx_iff s p.data.toList
 rw [size_list] at hi
 have hb : pfxB p.data.toList s.data.toList = true ↔ p.size ≤ s.size ∧ ((s.extract 0 p.size).toList == p.data.toList) = true := by unfold pfxB; rw [List.isPrefixOf_iff_prefix]; exact hi
 by_cases hl : p.size ≤ s.size
 ·have l1 : decide ((p.size : Int) ≤ (s.size : Int)) = true := decide_eq_true (by omega)
  have l2 : (p.size : Int) ≤ (s.size : Int) := by omega
  have he : pfxB p.data.toList s.data.toList = ((s.extract 0 p.size).toList == p.toList) := by
   rw [Bool.eq_iff_iff, hb, ByteArray.toList_eq p]; exact ⟨fun h => h.2, fun h => ⟨hl, h⟩⟩
  rw [he]
  clear hb hi he
  go_enter Tryz.func108, Tryz.ntmps108
  go_wp2_with fail
  go_ret
  exact ⟨rfl, rfl⟩
 ·have l1 : decide ((p.size : Int) ≤ (s.size : Int)) = false := decide_eq_false (by omega)
  have l2 : ¬ (p.size : Int) ≤ (s.size : Int) := by omega
  have he : pfxB p.data.toList s.data.toList = false := by rw [Bool.eq_false_iff]; intro h; exact hl (hb.1 h).1
  rw [he]
  clear hb hi he
  go_enter Tryz.func108, Tryz.ntmps108
  go_wp2_with fail
  go_ret
  exact ⟨rfl, rfl⟩
theorem HasPrefix_any (s p : ByteArray) (hs : s.size ≤ 1000000) (w : World) :
  Calls Tryz.prog 81 #[.string s, .string p] w fun e w' => e = .returned (.bool (pfxB p.data.toList s.data.toList)) ∧ w = w' := by
 have c := Lib.hid (SlHasPrefix_any s p hs w)
 go_enter Tryz.func81, Tryz.ntmps81
 go_wp2_with fail
 refine c.out.mono ?_; rintro e x1 ⟨rfl, rfl⟩; go_wp2_with fail
 go_ret
 exact ⟨rfl, rfl⟩
def seqW (w : World) (s sep : ByteArray) : World := ((w.alloc (.cells #[.string s] 9)).alloc (.cells #[.string sep] 9)).alloc (.cells #[.int .i64 0] 3)
theorem splitSeq_any (s sep : ByteArray) (w : World) :
  Calls Tryz.prog 107 #[.string s, .string sep, .int .i64 0] w fun e w' => e = .returned (.func (.func 130) #[] #[.pointer (some ⟨w.heap.size + 1, 0, none⟩), .pointer (some ⟨w.heap.size, 0, none⟩), .pointer (some ⟨w.heap.size + 2, 0, none⟩)]) ∧ w' = seqW w s sep := by
 go_enter Tryz.func107, Tryz.ntmps107
 go_wp2_with fail
 go_ret
 exact ⟨rfl, rfl⟩
theorem SplitSeq_any (s sep : ByteArray) (w : World) :
  Calls Tryz.prog 80 #[.string s, .string sep] w fun e w' => e = .returned (.func (.func 130) #[] #[.pointer (some ⟨w.heap.size + 1, 0, none⟩), .pointer (some ⟨w.heap.size, 0, none⟩), .pointer (some ⟨w.heap.size + 2, 0, none⟩)]) ∧ w' = seqW w s sep := by
 go_enter Tryz.func80, Tryz.ntmps80
 go_wp2_with fail
 refine (splitSeq_any s sep w).mono ?_; rintro e x1 ⟨rfl, rfl⟩; go_wp2_with fail
 go_ret
 exact ⟨rfl, rfl⟩
theorem keep_cells {A B : World} {row : Option Nat} {k : Nat} {cs : Array Value} {T : TypeId} {fr : Nat × Nat} (h : A.heap[k]? = some (.cells cs T fr)) (hg : A.grownBy B row) (hr : ∀ r, row = some r → ∃ o : Obj, A.heap[r]? = some o ∧ o.isCells = false) : B.heap[k]? = some (.cells cs T fr) := by
 refine (hg.block k (Array.getElem?_eq_some_iff.1 h).1 ?_).trans h
 intro e
 obtain ⟨o, ho, hc⟩ := hr k e.symm
 rw [h] at ho
 cases ho
 cases hc
theorem find_last {p : List UInt8 → Bool} {l pre : List (List UInt8)} {x : List UInt8} (hp : pre ++ [x] <+: l) (hn : ∀ y ∈ pre, p y = false) (hx : p x = true) : l.find? p = some x := by
 obtain ⟨r, rfl⟩ := hp
 rw [List.append_assoc, List.find?_append, List.find?_eq_none.2 (fun y hy => by simp [hn y hy])]
 simp [hx]
theorem five_heap (w : World) (o1 o2 o3 o4 o5 : Obj) : let W0 := ((((w.alloc o1).alloc o2).alloc o3).alloc o4).alloc o5
  W0.heap[w.heap.size]? = some o1 ∧ W0.heap[w.heap.size + 1]? = some o2 ∧ W0.heap[w.heap.size + 1 + 1]? = some o3 ∧ W0.heap[w.heap.size + 1 + 1 + 1]? = some o4 ∧ W0.heap[w.heap.size + 1 + 1 + 2]? = some o5 ∧ Below w.heap.size w W0 := by
 have n1 := World.alloc_heap_new w o1
 have n2 := World.alloc_heap_new (w.alloc o1) o2
 have n3 := World.alloc_heap_new ((w.alloc o1).alloc o2) o3
 have n4 := World.alloc_heap_new (((w.alloc o1).alloc o2).alloc o3) o4
 have n5 := World.alloc_heap_new ((((w.alloc o1).alloc o2).alloc o3).alloc o4) o5
 simp only [World.size_alloc] at n2 n3 n4 n5
 have old : ∀ (V : World) (o : Obj) (k : Nat), k < V.heap.size → (V.alloc o).heap[k]? = V.heap[k]? := fun V o k h => Below.heap_alloc V o k h
 refine ⟨?_, ?_, ?_, ?_, n5, ?_⟩
 ·rw [old _ _ _ (by simp only [World.size_alloc]; omega), old _ _ _ (by simp only [World.size_alloc]; omega), old _ _ _ (by simp only [World.size_alloc]; omega), old _ _ _ (by simp only [World.size_alloc]; omega)]; exact n1
 ·rw [old _ _ _ (by simp only [World.size_alloc]; omega), old _ _ _ (by simp only [World.size_alloc]; omega), old _ _ _ (by simp only [World.size_alloc]; omega)]; exact n2
 ·rw [old _ _ _ (by simp only [World.size_alloc]; omega), old _ _ _ (by simp only [World.size_alloc]; omega)]; exact n3
 ·rw [old _ _ _ (by simp only [World.size_alloc]; omega)]; exact n4
 ·exact (((((Below.refl _ w).alloc (Nat.le_refl _) _).alloc (by simp only [World.size_alloc]; omega) _).alloc (by simp only [World.size_alloc]; omega) _).alloc (by simp only [World.size_alloc]; omega) _).alloc (by simp only [World.size_alloc]; omega) _
def signOf (l : List UInt8) : List UInt8 := (signsL.find? (fun x => pfxB x l)).getD []
set_option maxHeartbeats 1000000 in
set_option maxRecDepth 100000 in
theorem sign_any (s : ByteArray) (hs : s.size ≤ 1000000) (w : World) :
  Calls Tryz.prog 49 #[.string s] w fun e w' => e = .returned (.string ⟨(signOf s.data.toList).toArray⟩) ∧ Below w.heap.size w w' := by
 refine (callsIn_wide (n := 3)).1 ?_
 refine callsIn_of_wp_marks Tryz.func49 rfl trivial ?_ rfl
 simp only [Tryz.ntmps49, List.size_toArray, List.length_cons, List.length_nil, Nat.reduceAdd, Nat.reduceSub, Array.replicate_succ, Array.replicate_zero, List.push_toArray, List.append_toArray, List.nil_append, List.cons_append]
 gi_wp2_with (refine ⟨trivial, ?_⟩; gi_at_call 80; refine (callsIn_wide.2 (SplitSeq_any _ _ _)).mono ?_; rintro e x1 ⟨rfl, rfl⟩)
 generalize hsv : (ByteArray.mk #[45, 62, 32, 58, 61, 32, 38, 38, 32, 124, 124, 32, 40, 32, 41, 32, 123, 32, 125, 32, 61, 32, 59, 32, 44, 32, 46, 32, 124, 32, 43, 32, 45, 32, 42, 32, 47, 32, 37, 32, 60, 32, 33]) = sv at *
 obtain ⟨W0, hW0⟩ : ∃ W0, seqW ((w.alloc (.cells #[.string s] 9)).alloc (.cells #[.string ⟨#[]⟩] 9)) sv ⟨#[32]⟩ = W0 := ⟨_, rfl⟩
 rw [hW0]
 have z0 : W0.heap.size = w.heap.size + 5 := by rw [← hW0]; simp only [seqW, World.size_alloc]
 have hf := five_heap w (.cells #[.string s] 9) (.cells #[.string ⟨#[]⟩] 9) (.cells #[.string sv] 9) (.cells #[.string ⟨#[32]⟩] 9) (.cells #[.int .i64 0] 3)
 simp only at hf
 unfold seqW at hW0
 rw [hW0] at hf
 obtain ⟨b0, b1, b2', b3, b4, bw⟩ := hf
 have hsv2 : sv = ⟨signsB.toArray⟩ := by rw [← hsv]; rfl
 have b2 : W0.heap[w.heap.size + 1 + 1]? = some (.cells #[strV signsB] 9 (0, 0)) := by rw [b2', hsv2]; rfl
 clear hsv hsv2 b2'
 refine range_cell (F := Fence.wide) (n := 3) rfl (by decide) (gf := 130) (lb := #[.pointer (some ⟨w.heap.size + 1 + 1 + 1, 0, none⟩), .pointer (some ⟨w.heap.size + 1 + 1, 0, none⟩), .pointer (some ⟨w.heap.size + 1 + 1 + 2, 0, none⟩)]) rfl trivial (enters_of Tryz.func130 (by kernel_rfl) rfl)
  (encs := fun x : List UInt8 => #[strV x]) (S := fun xs => xs = signsL) (Sp := fun pre => pre <+: signsL) (N := 20) (Bs := w.heap.size + 1 + 1) (by omega)
  (split_in 2 (by decide) (w.heap.size + 1 + 1) W0.heap.size (by omega) W0 b2 b3 b4) (fun _ => rfl)
  (fun pre W => W.heap[w.heap.size]? = some (.cells #[.string s] 9 (0, 0)) ∧ W.heap[w.heap.size + 1]? = some (.cells #[.string ⟨#[]⟩] 9 (0, 0)) ∧ Below w.heap.size w W ∧ ∀ y ∈ pre, pfxB y s.data.toList = false)
  (fun pre W => ∃ pre' x, pre = pre' ++ [x] ∧ (∀ y ∈ pre', pfxB y s.data.toList = false) ∧ pfxB x s.data.toList = true ∧ W.heap[w.heap.size + 1]? = some (.cells #[strV x] 9 (0, 0)) ∧ Below w.heap.size w W)
  (fun pre A B row hs hg hr => ⟨keep_cells hs.1 hg (fun r e => (hr r e).2), keep_cells hs.2.1 hg (fun r e => (hr r e).2), hs.2.2.1.grown hg hs.2.2.1.size (fun k e => by have := (hr k e).1; omega), hs.2.2.2⟩)
  (fun pre A v hs => ⟨(putObj_setCell_heap (by omega)).trans hs.1, (putObj_setCell_heap (by omega)).trans hs.2.1, hs.2.2.1.setCell (p := ⟨w.heap.size + 1 + 1, 0, none⟩) (by show w.heap.size ≤ w.heap.size + 1 + 1; omega) _, hs.2.2.2⟩)
  (fun pre A B row hs hg hr => by
   obtain ⟨pre', x, e, h1, h2, h3, h4⟩ := hs
   exact ⟨pre', x, e, h1, h2, keep_cells h3 hg (fun r e => (hr r e).2), h4.grown hg h4.size (fun k e => by have := (hr k e).1; omega)⟩)
  (fun pre A v hs => by
   obtain ⟨pre', x, e, h1, h2, h3, h4⟩ := hs
   exact ⟨pre', x, e, h1, h2, (putObj_setCell_heap (by omega)).trans h3, h4.setCell (p := ⟨w.heap.size + 1 + 1, 0, none⟩) (by show w.heap.size ≤ w.heap.size + 1 + 1; omega) _⟩)
  ⟨b0, b1, bw, fun _ h => by cases h⟩
  (fun x => { tmps := #[.string s, .pointer (some ⟨w.heap.size, 0, none⟩), .pointer (some ⟨w.heap.size + 1, 0, none⟩), strV x, .func (.func 130) #[] #[.pointer (some ⟨w.heap.size + 1 + 1 + 1, 0, none⟩), .pointer (some ⟨w.heap.size + 1 + 1, 0, none⟩), .pointer (some ⟨w.heap.size + 1 + 1 + 2, 0, none⟩)], strV x, undef, undef, undef, undef], defers := [] }) ?assign ?body ?done ?stop
 case assign =>
  intro l x W K hK
  gi_wp2
  exact hK
 case body =>
  rintro l pre x W ⟨h0, h1, h2, h3⟩ _
  have c0 : W.cell? ⟨w.heap.size, 0, none⟩ = some (.string s) := cell_of h0 0
  have f1 : W.frozen? ⟨w.heap.size + 1, 0, none⟩ = false := frozen_of h1 0
  have d1 : W.cell? ⟨w.heap.size + 1, 0, none⟩ = some (.string ⟨#[]⟩) := cell_of h1 0
  have hp := HasPrefix_any s ⟨x.toArray⟩ hs W
  have ex : pfxB (ByteArray.mk x.toArray).data.toList s.data.toList = pfxB x s.data.toList := rfl
  rw [ex] at hp
  unfold strV
  cases hx : pfxB x s.data.toList with
  | true =>
   rw [hx] at hp
   clear ex
   gi_wp2_with (refine ⟨trivial, ?_⟩; gi_at_call 81; refine (CallsIn.inRound l (callsIn_wide.2 hp)).mono ?_; rintro e x1 ⟨rfl, rfl⟩)
   exact ⟨KeepsOthers.setCell _ _ _, pre, x, ⟨rfl, rfl⟩, h3, hx, set_same h1 _, h2.setCell (p := ⟨w.heap.size + 1, 0, none⟩) (by show w.heap.size ≤ w.heap.size + 1; omega) _⟩
  | false =>
   rw [hx] at hp
   clear ex
   gi_wp2_with (refine ⟨trivial, ?_⟩; gi_at_call 81; refine (CallsIn.inRound l (callsIn_wide.2 hp)).mono ?_; rintro e x1 ⟨rfl, rfl⟩)
   refine ⟨KeepsOthers.refl _, Below.refl _ _, fun y hy => ?_⟩
   rcases hy with hy | rfl
   ·exact h3 y hy
   ·exact hx
 case done =>
  rintro D xs W hD rfl ⟨h0, h1, h2, h3⟩ hK
  have hr : signOf s.data.toList = [] := by
   unfold signOf
   rw [List.find?_eq_none.2 (fun y hy => by simp [h3 y hy])]; rfl
  have f1 : W.frozen? ⟨w.heap.size + 1, 0, none⟩ = false := frozen_of h1 0
  have d1 : W.cell? ⟨w.heap.size + 1, 0, none⟩ = some (.string ⟨#[]⟩) := cell_of h1 0
  gi_wp2
  have hK' := (KeepsOthers.setCell W ⟨w.heap.size + 1, 0, none⟩ (.string ⟨#[]⟩)).same D _ hK rfl
  refine ⟨by simp, .inl ⟨_, _, rfl, run_takeDeferred hK', ?_⟩⟩
  have hc5 := cell_kept (World.cell?_setCell_same' W ⟨w.heap.size + 1, 0, none⟩ (.string ⟨#[]⟩) (by rw [d1]; rfl)) (grownBy_putObj' _ D (.deferred none)) (fun r e => by cases e; exact ⟨_, hK', rfl⟩)
  refine ⟨.string ⟨#[]⟩, ?_, by rw [hr], ?_⟩
  ·simp [results, Tryz.f49, go_sem, hc5]
  ·exact (h2.setCell (p := ⟨w.heap.size + 1, 0, none⟩) (by show w.heap.size ≤ w.heap.size + 1; omega) _).grown (grownBy_putObj' _ D (.deferred none)) (h2.setCell (p := ⟨w.heap.size + 1, 0, none⟩) (by show w.heap.size ≤ w.heap.size + 1; omega) (.string ⟨#[]⟩)).size (fun k e => by cases e; omega)
 case stop =>
  rintro D pre W hD hp ⟨pre', x, rfl, h1, h2, h3, h4⟩ hK
  have hr : signOf s.data.toList = x := by
   unfold signOf
   rw [find_last hp h1 h2]; rfl
  have d1 : W.cell? ⟨w.heap.size + 1, 0, none⟩ = some (strV x) := cell_of h3 0
  gi_wp2
  refine ⟨by simp, .inl ⟨_, _, rfl, run_takeDeferred hK, ?_⟩⟩
  have hc5 := cell_kept d1 (grownBy_putObj' _ D (.deferred none)) (fun r e => by cases e; exact ⟨_, hK, rfl⟩)
  refine ⟨strV x, ?_, by rw [hr]; rfl, ?_⟩
  ·simp [results, Tryz.f49, go_sem, hc5]
  ·exact h4.grown (grownBy_putObj' _ D (.deferred none)) h4.size (fun k e => by cases e; omega)
end Go.Proofs.YtpjkfeehgookkaaGreatDoor
