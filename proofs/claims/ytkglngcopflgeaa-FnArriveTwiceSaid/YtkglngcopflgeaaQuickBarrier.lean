/- The contracts over barriers, each answer named by an equation. -/
import Derived.Test.YtkglngcopflgeaaBarrier
import Derived.Test.YtkglngcopflgeaaArrive
import Derived.Test.YtkglngcopflgeaaDraw
namespace Go.Proofs.Ytkglngcopflgeaa
open Go.RowKit

theorem I_BarrierValid_q (w : World) (p r : Int) (v : Value) (xs : List Int) (b0 : Bool) (hr : Rd w v xs) (hl : xs.length ≤ 4294967296) (hb0 : bval p r xs = b0) :
    Calls Try.prog 28 #[.agg #[.int .i64 p, .int .i64 r, v]] w fun e w' => e = .returned (.bool b0) ∧ Below w.heap.size w w' := by
  subst hb0
  exact (I_BarrierValid w p r v xs hr hl).mono fun e w' ⟨he, hb⟩ => ⟨he, hb⟩
theorem S_BarrierValid_q (w : World) (p r : Int) (v : Value) (xs : List Int) (b0 : Bool) (hr : Rd w v xs) (hl : xs.length ≤ 4294967296) (hb0 : bval p r xs = b0) :
    Calls Try.prog 29 #[.agg #[.int .i64 p, .int .i64 r, v]] w fun e w' => e = .returned (.bool b0) ∧ Below w.heap.size w w' := by
  subst hb0
  exact (S_BarrierValid w p r v xs hr hl).mono fun e w' ⟨he, hb⟩ => ⟨he, hb⟩
theorem I_NewBarrier_q (w : World) (n : Int) (p00 : Int) (p01 : Int) (y0 : List Int) (b1 : Bool) (n0 : Nat) (hp00 : nbP n = p00) (hp01 : 0 = p01) (hy0 : ([] : List Int) = y0) (hb1 : nbOk n = b1) (hn0 : y0.length = n0) :
    Calls Try.prog 13 #[.int .i64 n] w fun e w' => ∃ a0 c0, e = .returned (.tuple #[.agg #[.int .i64 p00, .int .i64 p01, .slice a0 n0 c0], .bool b1]) ∧ RdB w' w.heap.size (.slice a0 n0 c0) y0 ∧ Below w.heap.size w w' := by
  subst hp00; subst hp01; subst hy0; subst hb1; subst hn0
  exact (I_NewBarrier w n).mono fun e w' ⟨a0, c0, he, ho0, hb⟩ => ⟨a0, c0, he, ow_rdb ho0, hb⟩
theorem S_NewBarrier_q (w : World) (n : Int) (p00 : Int) (p01 : Int) (y0 : List Int) (b1 : Bool) (n0 : Nat) (hp00 : nbP n = p00) (hp01 : 0 = p01) (hy0 : ([] : List Int) = y0) (hb1 : nbOk n = b1) (hn0 : y0.length = n0) :
    Calls Try.prog 14 #[.int .i64 n] w fun e w' => ∃ a0 c0, e = .returned (.tuple #[.agg #[.int .i64 p00, .int .i64 p01, .slice a0 n0 c0], .bool b1]) ∧ RdB w' w.heap.size (.slice a0 n0 c0) y0 ∧ Below w.heap.size w w' := by
  subst hp00; subst hp01; subst hy0; subst hb1; subst hn0
  exact (S_NewBarrier w n).mono fun e w' ⟨a0, c0, he, ho0, hb⟩ => ⟨a0, c0, he, ow_rdb ho0, hb⟩
theorem I_Arrive_q (w : World) (p r : Int) (v : Value) (xs : List Int) (t : Int) (p00 : Int) (p01 : Int) (y0 : List Int) (y1 : List Int) (b2 : Bool) (n0 : Nat) (n1 : Nat) (hr : Rd w v xs) (hl : xs.length ≤ 4294967296) (hp00 : (arr p r xs t).1 = p00) (hp01 : (arr p r xs t).2.1 = p01) (hy0 : (arr p r xs t).2.2.1 = y0) (hy1 : (arr p r xs t).2.2.2.1 = y1) (hb2 : (arr p r xs t).2.2.2.2 = b2) (hn0 : y0.length = n0) (hn1 : y1.length = n1) :
    Calls Try.prog 16 #[.agg #[.int .i64 p, .int .i64 r, v], .int .i64 t] w fun e w' => ∃ a0 c0 a1 c1, e = .returned (.tuple #[.agg #[.int .i64 p00, .int .i64 p01, .slice a0 n0 c0], .slice a1 n1 c1, .bool b2]) ∧ RdB w' w.heap.size (.slice a0 n0 c0) y0 ∧ RdB w' w.heap.size (.slice a1 n1 c1) y1 ∧ Below w.heap.size w w' := by
  subst hp00; subst hp01; subst hy0; subst hy1; subst hb2; subst hn0; subst hn1
  exact (I_Arrive w p r v xs t hr hl).mono fun e w' ⟨a0, c0, a1, c1, he, ho0, ho1, _, hb⟩ => ⟨a0, c0, a1, c1, he, ow_rdb ho0, ow_rdb ho1, hb⟩
theorem S_Arrive_q (w : World) (p r : Int) (v : Value) (xs : List Int) (t : Int) (p00 : Int) (p01 : Int) (y0 : List Int) (y1 : List Int) (b2 : Bool) (n0 : Nat) (n1 : Nat) (hr : Rd w v xs) (hl : xs.length ≤ 4294967296) (hp00 : (arr p r xs t).1 = p00) (hp01 : (arr p r xs t).2.1 = p01) (hy0 : (arr p r xs t).2.2.1 = y0) (hy1 : (arr p r xs t).2.2.2.1 = y1) (hb2 : (arr p r xs t).2.2.2.2 = b2) (hn0 : y0.length = n0) (hn1 : y1.length = n1) :
    Calls Try.prog 33 #[.agg #[.int .i64 p, .int .i64 r, v], .int .i64 t] w fun e w' => ∃ a0 c0 a1 c1, e = .returned (.tuple #[.agg #[.int .i64 p00, .int .i64 p01, .slice a0 n0 c0], .slice a1 n1 c1, .bool b2]) ∧ RdB w' w.heap.size (.slice a0 n0 c0) y0 ∧ RdB w' w.heap.size (.slice a1 n1 c1) y1 ∧ Below w.heap.size w w' := by
  subst hp00; subst hp01; subst hy0; subst hy1; subst hb2; subst hn0; subst hn1
  exact (S_Arrive w p r v xs t hr hl).mono fun e w' ⟨a0, c0, a1, c1, he, ho0, ho1, _, hb⟩ => ⟨a0, c0, a1, c1, he, ow_rdb ho0, ow_rdb ho1, hb⟩
end Go.Proofs.Ytkglngcopflgeaa
