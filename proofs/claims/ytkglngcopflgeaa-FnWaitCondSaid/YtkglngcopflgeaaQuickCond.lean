/- The contracts over conditions, each answer named by an equation. -/
import Derived.Test.YtkglngcopflgeaaCond
import Derived.Test.YtkglngcopflgeaaTellOne
import Derived.Test.YtkglngcopflgeaaDraw
namespace Go.Proofs.Ytkglngcopflgeaa
open Go.RowKit

theorem I_CondValid_q (w : World) (v : Value) (xs : List Int) (b0 : Bool) (hr : Rd w v xs) (hl : xs.length ≤ 4294967296) (hb0 : vt xs = b0) :
    Calls Try.prog 18 #[.agg #[v]] w fun e w' => e = .returned (.bool b0) ∧ Below w.heap.size w w' := by
  subst hb0
  exact (I_CondValid w v xs hr hl).mono fun e w' ⟨he, hb⟩ => ⟨he, hb⟩
theorem S_CondValid_q (w : World) (v : Value) (xs : List Int) (b0 : Bool) (hr : Rd w v xs) (hl : xs.length ≤ 4294967296) (hb0 : vt xs = b0) :
    Calls Try.prog 19 #[.agg #[v]] w fun e w' => e = .returned (.bool b0) ∧ Below w.heap.size w w' := by
  subst hb0
  exact (S_CondValid w v xs hr hl).mono fun e w' ⟨he, hb⟩ => ⟨he, hb⟩
theorem I_TellAll_q (w : World) (v : Value) (xs : List Int) (y0 : List Int) (y1 : List Int) (b2 : Bool) (n0 : Nat) (n1 : Nat) (hr : Rd w v xs) (hl : xs.length ≤ 4294967296) (hy0 : ([] : List Int) = y0) (hy1 : okL (vt xs) xs = y1) (hb2 : vt xs = b2) (hn0 : y0.length = n0) (hn1 : y1.length = n1) :
    Calls Try.prog 22 #[.agg #[v]] w fun e w' => ∃ a0 c0 a1 c1, e = .returned (.tuple #[.agg #[.slice a0 n0 c0], .slice a1 n1 c1, .bool b2]) ∧ RdB w' w.heap.size (.slice a0 n0 c0) y0 ∧ RdB w' w.heap.size (.slice a1 n1 c1) y1 ∧ Below w.heap.size w w' := by
  subst hy0; subst hy1; subst hb2; subst hn0; subst hn1
  exact (I_TellAll w v xs hr hl).mono fun e w' ⟨a0, c0, a1, c1, he, ho0, ho1, _, hb⟩ => ⟨a0, c0, a1, c1, he, ow_rdb ho0, ow_rdb ho1, hb⟩
theorem S_TellAll_q (w : World) (v : Value) (xs : List Int) (y0 : List Int) (y1 : List Int) (b2 : Bool) (n0 : Nat) (n1 : Nat) (hr : Rd w v xs) (hl : xs.length ≤ 4294967296) (hy0 : ([] : List Int) = y0) (hy1 : okL (vt xs) xs = y1) (hb2 : vt xs = b2) (hn0 : y0.length = n0) (hn1 : y1.length = n1) :
    Calls Try.prog 23 #[.agg #[v]] w fun e w' => ∃ a0 c0 a1 c1, e = .returned (.tuple #[.agg #[.slice a0 n0 c0], .slice a1 n1 c1, .bool b2]) ∧ RdB w' w.heap.size (.slice a0 n0 c0) y0 ∧ RdB w' w.heap.size (.slice a1 n1 c1) y1 ∧ Below w.heap.size w w' := by
  subst hy0; subst hy1; subst hb2; subst hn0; subst hn1
  exact (S_TellAll w v xs hr hl).mono fun e w' ⟨a0, c0, a1, c1, he, ho0, ho1, _, hb⟩ => ⟨a0, c0, a1, c1, he, ow_rdb ho0, ow_rdb ho1, hb⟩
theorem I_TellOne_q (w : World) (v : Value) (xs : List Int) (y0 : List Int) (y1 : List Int) (b2 : Bool) (n0 : Nat) (n1 : Nat) (hr : Rd w v xs) (hl : xs.length ≤ 4294967296) (hy0 : okL (vt xs) xs.tail = y0) (hy1 : okL (vt xs) (xs.take 1) = y1) (hb2 : vt xs = b2) (hn0 : y0.length = n0) (hn1 : y1.length = n1) :
    Calls Try.prog 25 #[.agg #[v]] w fun e w' => ∃ a0 c0 a1 c1, e = .returned (.tuple #[.agg #[.slice a0 n0 c0], .slice a1 n1 c1, .bool b2]) ∧ RdB w' w.heap.size (.slice a0 n0 c0) y0 ∧ RdB w' w.heap.size (.slice a1 n1 c1) y1 ∧ Below w.heap.size w w' := by
  subst hy0; subst hy1; subst hb2; subst hn0; subst hn1
  exact (I_TellOne w v xs hr hl).mono fun e w' ⟨a0, c0, a1, c1, he, ho0, ho1, _, hb⟩ => ⟨a0, c0, a1, c1, he, ow_rdb ho0, ow_rdb ho1, hb⟩
theorem S_TellOne_q (w : World) (v : Value) (xs : List Int) (y0 : List Int) (y1 : List Int) (b2 : Bool) (n0 : Nat) (n1 : Nat) (hr : Rd w v xs) (hl : xs.length ≤ 4294967296) (hy0 : okL (vt xs) xs.tail = y0) (hy1 : okL (vt xs) (xs.take 1) = y1) (hb2 : vt xs = b2) (hn0 : y0.length = n0) (hn1 : y1.length = n1) :
    Calls Try.prog 27 #[.agg #[v]] w fun e w' => ∃ a0 c0 a1 c1, e = .returned (.tuple #[.agg #[.slice a0 n0 c0], .slice a1 n1 c1, .bool b2]) ∧ RdB w' w.heap.size (.slice a0 n0 c0) y0 ∧ RdB w' w.heap.size (.slice a1 n1 c1) y1 ∧ Below w.heap.size w w' := by
  subst hy0; subst hy1; subst hb2; subst hn0; subst hn1
  exact (S_TellOne w v xs hr hl).mono fun e w' ⟨a0, c0, a1, c1, he, ho0, ho1, _, hb⟩ => ⟨a0, c0, a1, c1, he, ow_rdb ho0, ow_rdb ho1, hb⟩
theorem I_WaitCond_q (w : World) (v : Value) (xs : List Int) (t : Int) (y0 : List Int) (b1 : Bool) (n0 : Nat) (hr : Rd w v xs) (hl : xs.length ≤ 4294967296) (hy0 : waitL xs t = y0) (hb1 : waitOk xs t = b1) (hn0 : y0.length = n0) :
    Calls Try.prog 20 #[.agg #[v], .int .i64 t] w fun e w' => ∃ a0 c0, e = .returned (.tuple #[.agg #[.slice a0 n0 c0], .bool b1]) ∧ RdB w' w.heap.size (.slice a0 n0 c0) y0 ∧ Below w.heap.size w w' := by
  subst hy0; subst hb1; subst hn0
  exact (I_WaitCond w v xs t hr hl).mono fun e w' ⟨a0, c0, he, ho0, hb⟩ => ⟨a0, c0, he, ow_rdb ho0, hb⟩
theorem S_WaitCond_q (w : World) (v : Value) (xs : List Int) (t : Int) (y0 : List Int) (b1 : Bool) (n0 : Nat) (hr : Rd w v xs) (hl : xs.length ≤ 4294967296) (hy0 : waitL xs t = y0) (hb1 : waitOk xs t = b1) (hn0 : y0.length = n0) :
    Calls Try.prog 31 #[.agg #[v], .int .i64 t] w fun e w' => ∃ a0 c0, e = .returned (.tuple #[.agg #[.slice a0 n0 c0], .bool b1]) ∧ RdB w' w.heap.size (.slice a0 n0 c0) y0 ∧ Below w.heap.size w w' := by
  subst hy0; subst hb1; subst hn0
  exact (S_WaitCond w v xs t hr hl).mono fun e w' ⟨a0, c0, he, ho0, hb⟩ => ⟨a0, c0, he, ow_rdb ho0, hb⟩
end Go.Proofs.Ytkglngcopflgeaa
