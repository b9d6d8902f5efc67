/- The contracts over groups, each answer named by an equation. -/
import Derived.Test.YtgdhbhgkfcgjdaaGroup
import Derived.Test.YtgdhbhgkfcgjdaaAddGroup
import Derived.Test.YtgdhbhgkfcgjdaaWaitGroup
import Derived.Test.YtgdhbhgkfcgjdaaDraw
namespace Go.Proofs.Ytgdhbhgkfcgjdaa
open Go.RowKit

theorem I_GroupValid_q (w : World) (c : Int) (v : Value) (xs : List Int) (b0 : Bool) (hr : Rd w v xs) (hl : xs.length ≤ 4294967296) (hb0 : gval c xs = b0) :
    Calls Try.prog 15 #[.agg #[.int .i64 c, v]] w fun e w' => e = .returned (.bool b0) ∧ Below w.heap.size w w' := by
  subst hb0
  exact (I_GroupValid w c v xs hr hl).mono fun e w' ⟨he, hb⟩ => ⟨he, hb⟩
theorem S_GroupValid_q (w : World) (c : Int) (v : Value) (xs : List Int) (b0 : Bool) (hr : Rd w v xs) (hl : xs.length ≤ 4294967296) (hb0 : gval c xs = b0) :
    Calls Try.prog 16 #[.agg #[.int .i64 c, v]] w fun e w' => e = .returned (.bool b0) ∧ Below w.heap.size w w' := by
  subst hb0
  exact (S_GroupValid w c v xs hr hl).mono fun e w' ⟨he, hb⟩ => ⟨he, hb⟩
theorem I_AddGroup_q (w : World) (c : Int) (v : Value) (xs : List Int) (n : Int) (p00 : Int) (y0 : List Int) (y1 : List Int) (b2 : Bool) (n0 : Nat) (n1 : Nat) (hr : Rd w v xs) (hl : xs.length ≤ 4294967296) (hp00 : (addG c xs n).1 = p00) (hy0 : (addG c xs n).2.1 = y0) (hy1 : (addG c xs n).2.2.1 = y1) (hb2 : (addG c xs n).2.2.2 = b2) (hn0 : y0.length = n0) (hn1 : y1.length = n1) :
    Calls Try.prog 20 #[.agg #[.int .i64 c, v], .int .i64 n] w fun e w' => ∃ a0 c0 a1 c1, e = .returned (.tuple #[.agg #[.int .i64 p00, .slice a0 n0 c0], .slice a1 n1 c1, .bool b2]) ∧ RdB w' w.heap.size (.slice a0 n0 c0) y0 ∧ RdB w' w.heap.size (.slice a1 n1 c1) y1 ∧ Below w.heap.size w w' := by
  subst hp00; subst hy0; subst hy1; subst hb2; subst hn0; subst hn1
  exact (I_AddGroup w c v xs n hr hl).mono fun e w' ⟨a0, c0, a1, c1, he, ho0, ho1, _, hb⟩ => ⟨a0, c0, a1, c1, he, ow_rdb ho0, ow_rdb ho1, hb⟩
theorem S_AddGroup_q (w : World) (c : Int) (v : Value) (xs : List Int) (n : Int) (p00 : Int) (y0 : List Int) (y1 : List Int) (b2 : Bool) (n0 : Nat) (n1 : Nat) (hr : Rd w v xs) (hl : xs.length ≤ 4294967296) (hp00 : (addG c xs n).1 = p00) (hy0 : (addG c xs n).2.1 = y0) (hy1 : (addG c xs n).2.2.1 = y1) (hb2 : (addG c xs n).2.2.2 = b2) (hn0 : y0.length = n0) (hn1 : y1.length = n1) :
    Calls Try.prog 22 #[.agg #[.int .i64 c, v], .int .i64 n] w fun e w' => ∃ a0 c0 a1 c1, e = .returned (.tuple #[.agg #[.int .i64 p00, .slice a0 n0 c0], .slice a1 n1 c1, .bool b2]) ∧ RdB w' w.heap.size (.slice a0 n0 c0) y0 ∧ RdB w' w.heap.size (.slice a1 n1 c1) y1 ∧ Below w.heap.size w w' := by
  subst hp00; subst hy0; subst hy1; subst hb2; subst hn0; subst hn1
  exact (S_AddGroup w c v xs n hr hl).mono fun e w' ⟨a0, c0, a1, c1, he, ho0, ho1, _, hb⟩ => ⟨a0, c0, a1, c1, he, ow_rdb ho0, ow_rdb ho1, hb⟩
theorem I_WaitGroup_q (w : World) (c : Int) (v : Value) (xs : List Int) (t : Int) (p00 : Int) (y0 : List Int) (b1 : Bool) (b2 : Bool) (n0 : Nat) (hr : Rd w v xs) (hl : xs.length ≤ 4294967296) (hp00 : (wg c xs t).1 = p00) (hy0 : (wg c xs t).2.1 = y0) (hb1 : (wg c xs t).2.2.1 = b1) (hb2 : (wg c xs t).2.2.2 = b2) (hn0 : y0.length = n0) :
    Calls Try.prog 18 #[.agg #[.int .i64 c, v], .int .i64 t] w fun e w' => ∃ a0 c0, e = .returned (.tuple #[.agg #[.int .i64 p00, .slice a0 n0 c0], .bool b1, .bool b2]) ∧ RdB w' w.heap.size (.slice a0 n0 c0) y0 ∧ Below w.heap.size w w' := by
  subst hp00; subst hy0; subst hb1; subst hb2; subst hn0
  exact (I_WaitGroup w c v xs t hr hl).mono fun e w' ⟨a0, c0, he, ho0, hb⟩ => ⟨a0, c0, he, ow_rdb ho0, hb⟩
theorem S_WaitGroup_q (w : World) (c : Int) (v : Value) (xs : List Int) (t : Int) (p00 : Int) (y0 : List Int) (b1 : Bool) (b2 : Bool) (n0 : Nat) (hr : Rd w v xs) (hl : xs.length ≤ 4294967296) (hp00 : (wg c xs t).1 = p00) (hy0 : (wg c xs t).2.1 = y0) (hb1 : (wg c xs t).2.2.1 = b1) (hb2 : (wg c xs t).2.2.2 = b2) (hn0 : y0.length = n0) :
    Calls Try.prog 19 #[.agg #[.int .i64 c, v], .int .i64 t] w fun e w' => ∃ a0 c0, e = .returned (.tuple #[.agg #[.int .i64 p00, .slice a0 n0 c0], .bool b1, .bool b2]) ∧ RdB w' w.heap.size (.slice a0 n0 c0) y0 ∧ Below w.heap.size w w' := by
  subst hp00; subst hy0; subst hb1; subst hb2; subst hn0
  exact (S_WaitGroup w c v xs t hr hl).mono fun e w' ⟨a0, c0, he, ho0, hb⟩ => ⟨a0, c0, he, ow_rdb ho0, hb⟩
theorem I_GroupSame_q (w : World) (p0 q0 : Int) (v : Value) (xs : List Int) (u : Value) (ys : List Int) (b0 : Bool) (hr : Rd w v xs) (hs : Rd w u ys) (hl : xs.length ≤ 4294967296) (hl' : ys.length ≤ 4294967296) (hb0 : (decide (p0 = q0) && eqB xs ys) = b0) :
    Calls Try.prog 13 #[.agg #[.int .i64 p0, v], .agg #[.int .i64 q0, u]] w fun e w' => e = .returned (.bool b0) ∧ Below w.heap.size w w' := by
  subst hb0
  exact I_GroupSame w p0 q0 v xs u ys hr hs hl hl'
theorem S_GroupSame_q (w : World) (p0 q0 : Int) (v : Value) (xs : List Int) (u : Value) (ys : List Int) (b0 : Bool) (hr : Rd w v xs) (hs : Rd w u ys) (hl : xs.length ≤ 4294967296) (hl' : ys.length ≤ 4294967296) (hb0 : (decide (p0 = q0) && eqB xs ys) = b0) :
    Calls Try.prog 14 #[.agg #[.int .i64 p0, v], .agg #[.int .i64 q0, u]] w fun e w' => e = .returned (.bool b0) ∧ Below w.heap.size w w' := by
  subst hb0
  exact S_GroupSame w p0 q0 v xs u ys hr hs hl hl'
end Go.Proofs.Ytgdhbhgkfcgjdaa
