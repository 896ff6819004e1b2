/- Layer 1, walks: the laws that name the reference. -/
import Derived.Test.YtbeekiclmfcohaaDoorW14
import Derived.Test.YtbeekiclmfcohaaDoorW5
namespace Go.Proofs.YtbeekiclmfcohaaDoor
open Go.RowKit

set_option maxHeartbeats 1000000 in
set_option maxRecDepth 100000 in
theorem WordWraps_walk (n x a : Int) (n0 : -9223372036854775808 ≤ n) (n1 : n ≤ 9223372036854775807) (x0 : 0 ≤ x) (x1 : x < 18446744073709551616) (w : World) (hE : Env w) :
    Calls Tryd.prog 3 #[.int .i64 n, .int .u64 x, .int .i64 a] w fun e w' => e = .returned (.bool true) ∧ Fr [] w w' := by
  have c1 := fun w => Lib.hid (Wrap_any n w)
  have c2 := fun w => Lib.hid (RWrap_any n n0 n1 w)
  have c3 := fun w => Lib.hid (Of_any n w)
  have c4 := fun w => Lib.hid (ROf_any n n0 n1 w)
  have c5 := fun w => Lib.hid (Num_any x x0 x1 w)
  have c6 := fun w => Lib.hid (RNum_any x x0 x1 w)
  have c7 := fun w => Lib.hid (IsNum_any x x0 x1 w)
  have c8 := fun w => Lib.hid (RIsNum_any x x0 x1 w)
  have c9 := fun w => Lib.hid (Ref_any a w)
  have c10 := fun w => Lib.hid (RRef_any a w)
  have c11 := fun w => Lib.hid (Addr_any x x0 x1 w)
  have c12 := fun w => Lib.hid (RAddr_any x x0 x1 w)
  clear n0 n1 x0 x1
  go_enter Tryd.func3, Tryd.ntmps3
  go_wp2_with fail
  refine (awake_any _ hE).mono ?_; rintro e w1 ⟨rfl, h1⟩; go_wp2_with fail
  refine (c1 _).out.mono ?_; rintro e w2 ⟨rfl, rfl⟩; go_wp2_with fail
  refine (c2 _).out.mono ?_; rintro e w2 ⟨rfl, rfl⟩; go_wp2_with fail
  refine (c3 _).out.mono ?_; rintro e w2 ⟨rfl, rfl⟩; go_wp2_with fail
  refine (c4 _).out.mono ?_; rintro e w2 ⟨rfl, rfl⟩; go_wp2_with fail
  refine (c5 _).out.mono ?_; rintro e w2 ⟨rfl, rfl⟩; go_wp2_with fail
  refine (c6 _).out.mono ?_; rintro e w2 ⟨rfl, rfl⟩; go_wp2_with fail
  refine (c7 _).out.mono ?_; rintro e w2 ⟨rfl, rfl⟩; go_wp2_with fail
  refine (c8 _).out.mono ?_; rintro e w2 ⟨rfl, rfl⟩; go_wp2_with fail
  refine (c9 _).out.mono ?_; rintro e w2 ⟨rfl, rfl⟩; go_wp2_with fail
  refine (c10 _).out.mono ?_; rintro e w2 ⟨rfl, rfl⟩; go_wp2_with fail
  refine (c11 _).out.mono ?_; rintro e w2 ⟨rfl, rfl⟩; go_wp2_with fail
  refine (c12 _).out.mono ?_; rintro e w2 ⟨rfl, rfl⟩; go_wp2_with fail
  go_ret
  exact ⟨by simp, h1⟩

set_option maxHeartbeats 1000000 in
set_option maxRecDepth 100000 in
theorem WordDoes_walk (op a b : Int) (a0 : -9223372036854775808 ≤ a) (a1 : a ≤ 9223372036854775807) (b0 : -9223372036854775808 ≤ b) (b1 : b ≤ 9223372036854775807) (w : World) (hE : Env w) :
    Calls Tryd.prog 4 #[.int .i64 op, .int .i64 a, .int .i64 b] w fun e w' => e = .returned (.bool true) ∧ Fr [] w w' := by
  have c1 := fun w => Lib.hid (Do_any op a b w)
  have c2 := fun w => Lib.hid (RDo_any op a b a0 a1 b0 b1 w)
  clear a0 a1 b0 b1
  go_enter Tryd.func4, Tryd.ntmps4
  go_wp2_with fail
  refine (awake_any _ hE).mono ?_; rintro e w1 ⟨rfl, h1⟩; go_wp2_with fail
  refine (c1 _).out.mono ?_; rintro e w2 ⟨rfl, h2⟩; go_wp2_with fail
  refine (c2 _).out.mono ?_; rintro e w3 ⟨rfl, rfl⟩; go_wp2_with fail
  go_ret
  exact ⟨by simp, h1.trans h2⟩

set_option maxHeartbeats 1000000 in
set_option maxRecDepth 100000 in
theorem WordTexts_walk (n : Int) (s : ByteArray) (n0 : -9223372036854775808 ≤ n) (n1 : n ≤ 9223372036854775807) (w : World) (hE : Env w) :
    Calls Tryd.prog 5 #[.int .i64 n, .string s] w fun e w' => e = .returned (.bool true) ∧ Fr [] w w' := by
  by_cases hs : 65536 < (s.size : Int)
  · clear n0 n1
    go_enter Tryd.func5, Tryd.ntmps5
    go_wp2_with fail
    refine (awake_any _ hE).mono ?_; rintro e w1 ⟨rfl, h1⟩; go_wp2_with fail
    go_ret
    exact ⟨rfl, h1⟩
  · have c1 := fun w hE => Lib.hid (Read_any s (by omega) w hE)
    have c2 := fun w => Lib.hid (RRead_any s (by omega) w)
    have c3 := fun w hE => Lib.hid (Text_any n n0 n1 w hE)
    have c4 := fun w => Lib.hid (RText_any n n0 n1 w)
    clear n0 n1
    go_enter Tryd.func5, Tryd.ntmps5
    go_wp2_with fail
    refine (awake_any _ hE).mono ?_; rintro e w1 ⟨rfl, h1⟩; go_wp2_with fail
    refine (c1 _ (hE.fr h1)).out.mono ?_; rintro e w2 ⟨rfl, h2⟩; go_wp2_with fail
    refine (c2 _).out.mono ?_; rintro e w3 ⟨rfl, rfl⟩; go_wp2_with fail
    refine (c3 _ ((hE.fr h1).fr h2)).out.mono ?_; rintro e w4 ⟨rfl, h4⟩; go_wp2_with fail
    refine (c4 _).out.mono ?_; rintro e w5 ⟨rfl, h5⟩; go_wp2_with fail
    go_ret
    exact ⟨by simp, ((h1.trans h2).trans h4).trans h5⟩

set_option maxHeartbeats 1000000 in
set_option maxRecDepth 100000 in
theorem WordQuotes_walk (s : ByteArray) (w : World) (hE : Env w) :
    Calls Tryd.prog 6 #[.string s] w fun e w' => e = .returned (.bool true) ∧ Fr [] w w' := by
  by_cases hs : 4096 < (s.size : Int)
  · go_enter Tryd.func6, Tryd.ntmps6
    go_wp2_with fail
    refine (awake_any _ hE).mono ?_; rintro e w1 ⟨rfl, h1⟩; go_wp2_with fail
    go_ret
    exact ⟨rfl, h1⟩
  · have c1 := fun w => Lib.hid (Unquote_any s (by omega) w)
    have c2 := fun w => Lib.hid (RUnquote_any s (by omega) w)
    have c3 := fun w => Lib.hid (Quote_any s (by omega) w)
    have c4 := fun w => Lib.hid (RQuote_any s (by omega) w)
    go_enter Tryd.func6, Tryd.ntmps6
    go_wp2_with fail
    refine (awake_any _ hE).mono ?_; rintro e w1 ⟨rfl, h1⟩; go_wp2_with fail
    refine (c1 _).out.mono ?_; rintro e w2 ⟨rfl, h2⟩; go_wp2_with fail
    refine (c2 _).out.mono ?_; rintro e w3 ⟨rfl, h3⟩; go_wp2_with fail
    refine (c3 _).out.mono ?_; rintro e w4 ⟨rfl, h4⟩; go_wp2_with fail
    refine (c4 _).out.mono ?_; rintro e w5 ⟨rfl, h5⟩; go_wp2_with fail
    go_ret
    exact ⟨by simp, (((h1.trans h2).trans h3).trans h4).trans h5⟩
end Go.Proofs.YtbeekiclmfcohaaDoor
