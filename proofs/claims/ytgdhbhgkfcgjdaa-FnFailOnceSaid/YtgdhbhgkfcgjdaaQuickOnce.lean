/- The contracts over onces, each answer named by an equation. -/
import Derived.Test.YtgdhbhgkfcgjdaaOnce
import Derived.Test.YtgdhbhgkfcgjdaaFinishOnce
import Derived.Test.YtgdhbhgkfcgjdaaFailOnce
import Derived.Test.YtgdhbhgkfcgjdaaDraw
namespace Go.Proofs.Ytgdhbhgkfcgjdaa
open Go.RowKit

theorem I_OnceValid_q (w : World) (s o k : Int) (v : Value) (xs : List Int) (b0 : Bool) (hr : Rd w v xs) (hl : xs.length ≤ 4294967296) (hb0 : oval s o k xs = b0) :
    Calls Try.prog 27 #[.agg #[.int .i64 s, .int .i64 o, .int .i64 k, v]] w fun e w' => e = .returned (.bool b0) ∧ Below w.heap.size w w' := by
  subst hb0
  exact (I_OnceValid w s o k v xs hr hl).mono fun e w' ⟨he, hb⟩ => ⟨he, hb⟩
theorem S_OnceValid_q (w : World) (s o k : Int) (v : Value) (xs : List Int) (b0 : Bool) (hr : Rd w v xs) (hl : xs.length ≤ 4294967296) (hb0 : oval s o k xs = b0) :
    Calls Try.prog 28 #[.agg #[.int .i64 s, .int .i64 o, .int .i64 k, v]] w fun e w' => e = .returned (.bool b0) ∧ Below w.heap.size w w' := by
  subst hb0
  exact (S_OnceValid w s o k v xs hr hl).mono fun e w' ⟨he, hb⟩ => ⟨he, hb⟩
theorem I_FinishOnce_q (w : World) (s o k : Int) (v : Value) (xs : List Int) (t z : Int) (p00 : Int) (p01 : Int) (p02 : Int) (y0 : List Int) (y1 : List Int) (b2 : Bool) (n0 : Nat) (n1 : Nat) (hr : Rd w v xs) (hl : xs.length ≤ 4294967296) (hp00 : (fin s o k xs t z).1 = p00) (hp01 : (fin s o k xs t z).2.1 = p01) (hp02 : (fin s o k xs t z).2.2.1 = p02) (hy0 : ([] : List Int) = y0) (hy1 : (fin s o k xs t z).2.2.2.1 = y1) (hb2 : (fin s o k xs t z).2.2.2.2 = b2) (hn0 : y0.length = n0) (hn1 : y1.length = n1) :
    Calls Try.prog 32 #[.agg #[.int .i64 s, .int .i64 o, .int .i64 k, v], .int .i64 t, .int .i64 z] w fun e w' => ∃ a0 c0 a1 c1, e = .returned (.tuple #[.agg #[.int .i64 p00, .int .i64 p01, .int .i64 p02, .slice a0 n0 c0], .slice a1 n1 c1, .bool b2]) ∧ RdB w' w.heap.size (.slice a0 n0 c0) y0 ∧ RdB w' w.heap.size (.slice a1 n1 c1) y1 ∧ Below w.heap.size w w' := by
  subst hp00; subst hp01; subst hp02; subst hy0; subst hy1; subst hb2; subst hn0; subst hn1
  exact (I_FinishOnce w s o k v xs t z hr hl).mono fun e w' ⟨a0, c0, a1, c1, he, ho0, ho1, _, hb⟩ => ⟨a0, c0, a1, c1, he, ow_rdb ho0, ow_rdb ho1, hb⟩
theorem S_FinishOnce_q (w : World) (s o k : Int) (v : Value) (xs : List Int) (t z : Int) (p00 : Int) (p01 : Int) (p02 : Int) (y0 : List Int) (y1 : List Int) (b2 : Bool) (n0 : Nat) (n1 : Nat) (hr : Rd w v xs) (hl : xs.length ≤ 4294967296) (hp00 : (fin s o k xs t z).1 = p00) (hp01 : (fin s o k xs t z).2.1 = p01) (hp02 : (fin s o k xs t z).2.2.1 = p02) (hy0 : ([] : List Int) = y0) (hy1 : (fin s o k xs t z).2.2.2.1 = y1) (hb2 : (fin s o k xs t z).2.2.2.2 = b2) (hn0 : y0.length = n0) (hn1 : y1.length = n1) :
    Calls Try.prog 55 #[.agg #[.int .i64 s, .int .i64 o, .int .i64 k, v], .int .i64 t, .int .i64 z] w fun e w' => ∃ a0 c0 a1 c1, e = .returned (.tuple #[.agg #[.int .i64 p00, .int .i64 p01, .int .i64 p02, .slice a0 n0 c0], .slice a1 n1 c1, .bool b2]) ∧ RdB w' w.heap.size (.slice a0 n0 c0) y0 ∧ RdB w' w.heap.size (.slice a1 n1 c1) y1 ∧ Below w.heap.size w w' := by
  subst hp00; subst hp01; subst hp02; subst hy0; subst hy1; subst hb2; subst hn0; subst hn1
  exact (S_FinishOnce w s o k v xs t z hr hl).mono fun e w' ⟨a0, c0, a1, c1, he, ho0, ho1, _, hb⟩ => ⟨a0, c0, a1, c1, he, ow_rdb ho0, ow_rdb ho1, hb⟩
theorem I_FailOnce_q (w : World) (s o k : Int) (v : Value) (xs : List Int) (t : Int) (p00 : Int) (p01 : Int) (p02 : Int) (y0 : List Int) (b1 : Bool) (n0 : Nat) (hr : Rd w v xs) (hl : xs.length ≤ 4294967296) (hp00 : (failO s o k xs t).1 = p00) (hp01 : (failO s o k xs t).2.1 = p01) (hp02 : 0 = p02) (hy0 : (failO s o k xs t).2.2.1 = y0) (hb1 : (failO s o k xs t).2.2.2 = b1) (hn0 : y0.length = n0) :
    Calls Try.prog 30 #[.agg #[.int .i64 s, .int .i64 o, .int .i64 k, v], .int .i64 t] w fun e w' => ∃ a0 c0, e = .returned (.tuple #[.agg #[.int .i64 p00, .int .i64 p01, .int .i64 p02, .slice a0 n0 c0], .bool b1]) ∧ RdB w' w.heap.size (.slice a0 n0 c0) y0 ∧ Below w.heap.size w w' := by
  subst hp00; subst hp01; subst hp02; subst hy0; subst hb1; subst hn0
  exact (I_FailOnce w s o k v xs t hr hl).mono fun e w' ⟨a0, c0, he, ho0, hb⟩ => ⟨a0, c0, he, ow_rdb ho0, hb⟩
theorem S_FailOnce_q (w : World) (s o k : Int) (v : Value) (xs : List Int) (t : Int) (p00 : Int) (p01 : Int) (p02 : Int) (y0 : List Int) (b1 : Bool) (n0 : Nat) (hr : Rd w v xs) (hl : xs.length ≤ 4294967296) (hp00 : (failO s o k xs t).1 = p00) (hp01 : (failO s o k xs t).2.1 = p01) (hp02 : 0 = p02) (hy0 : (failO s o k xs t).2.2.1 = y0) (hb1 : (failO s o k xs t).2.2.2 = b1) (hn0 : y0.length = n0) :
    Calls Try.prog 31 #[.agg #[.int .i64 s, .int .i64 o, .int .i64 k, v], .int .i64 t] w fun e w' => ∃ a0 c0, e = .returned (.tuple #[.agg #[.int .i64 p00, .int .i64 p01, .int .i64 p02, .slice a0 n0 c0], .bool b1]) ∧ RdB w' w.heap.size (.slice a0 n0 c0) y0 ∧ Below w.heap.size w w' := by
  subst hp00; subst hp01; subst hp02; subst hy0; subst hb1; subst hn0
  exact (S_FailOnce w s o k v xs t hr hl).mono fun e w' ⟨a0, c0, he, ho0, hb⟩ => ⟨a0, c0, he, ow_rdb ho0, hb⟩
theorem I_OnceSame_q (w : World) (p0 p1 p2 q0 q1 q2 : Int) (v : Value) (xs : List Int) (u : Value) (ys : List Int) (b0 : Bool) (hr : Rd w v xs) (hs : Rd w u ys) (hl : xs.length ≤ 4294967296) (hl' : ys.length ≤ 4294967296) (hb0 : (decide (p0 = q0) && decide (p1 = q1) && decide (p2 = q2) && eqB xs ys) = b0) :
    Calls Try.prog 25 #[.agg #[.int .i64 p0, .int .i64 p1, .int .i64 p2, v], .agg #[.int .i64 q0, .int .i64 q1, .int .i64 q2, u]] w fun e w' => e = .returned (.bool b0) ∧ Below w.heap.size w w' := by
  subst hb0
  exact I_OnceSame w p0 p1 p2 q0 q1 q2 v xs u ys hr hs hl hl'
theorem S_OnceSame_q (w : World) (p0 p1 p2 q0 q1 q2 : Int) (v : Value) (xs : List Int) (u : Value) (ys : List Int) (b0 : Bool) (hr : Rd w v xs) (hs : Rd w u ys) (hl : xs.length ≤ 4294967296) (hl' : ys.length ≤ 4294967296) (hb0 : (decide (p0 = q0) && decide (p1 = q1) && decide (p2 = q2) && eqB xs ys) = b0) :
    Calls Try.prog 26 #[.agg #[.int .i64 p0, .int .i64 p1, .int .i64 p2, v], .agg #[.int .i64 q0, .int .i64 q1, .int .i64 q2, u]] w fun e w' => e = .returned (.bool b0) ∧ Below w.heap.size w w' := by
  subst hb0
  exact S_OnceSame w p0 p1 p2 q0 q1 q2 v xs u ys hr hs hl hl'
end Go.Proofs.Ytgdhbhgkfcgjdaa
