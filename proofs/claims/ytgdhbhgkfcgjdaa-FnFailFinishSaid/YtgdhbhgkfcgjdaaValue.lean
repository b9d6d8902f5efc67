/- The bounded counts. -/
import Derived.Test.YtgdhbhgkfcgjdaaLeaf
namespace Go.Proofs.Ytgdhbhgkfcgjdaa
open Go.RowKit
/-- Is it a count that may be? -/
def val (c : Int) : Bool := decide (0 ≤ c) && decide (c ≤ 99)
theorem val_in {c : Int} (h : val c = true) : 0 ≤ c ∧ c ≤ 99 := by unfold val at h; simpa using h
theorem val_no {c : Int} (h : val c = false) : c < 0 ∨ 99 < c := by unfold val at h; simp at h; omega
set_option maxHeartbeats 400000 in
theorem I_isValue (w : World) (t : Int) : Calls Try.prog 39 #[.int .i64 t] w fun e w' => e = .returned (.bool (val t)) ∧ w = w' := by
  go_enter Try.func39, Try.ntmps39
  go_wp2
  all_goals go_ret
  all_goals exact ⟨by unfold val; congr 2; simp; try omega, rfl⟩
set_option maxHeartbeats 400000 in
theorem S_l2Value (w : World) (t : Int) : Calls Try.prog 41 #[.int .i64 t] w fun e w' => e = .returned (.bool (val t)) ∧ w = w' := by
  go_enter Try.func41, Try.ntmps41
  go_wp2
  all_goals go_ret
  all_goals exact ⟨by unfold val; congr 2; simp; try omega, rfl⟩
end Go.Proofs.Ytgdhbhgkfcgjdaa
