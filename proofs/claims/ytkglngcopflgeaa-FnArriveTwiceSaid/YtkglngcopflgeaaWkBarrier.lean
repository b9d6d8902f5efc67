/- The laws' own comparison of barriers. -/
import Derived.Test.YtkglngcopflgeaaLeaf
namespace Go.Proofs.Ytkglngcopflgeaa
open Go.RowKit
set_option maxHeartbeats 400000 in
theorem L_wkBarrier (w : World) (p r : Int) (v u : Value) (xs : List Int) (hr : Rd w v xs) (hs : Rd w u xs) (hl : xs.length ≤ 4294967296) :
    Calls Try.prog 15 #[.agg #[.int .i64 p, .int .i64 r, v], .agg #[.int .i64 p, .int .i64 r, u]] w fun e w' => e = .returned (.bool true) ∧ Below w.heap.size w w' := by
  have hr0 := Lib.hid hr
  have hs0 := Lib.hid hs
  obtain ⟨a, cap, rfl, hcap, hnc, hr⟩ := hr
  obtain ⟨b, cap', rfl, hcap', hnc', hs⟩ := hs
  clear hr hnc hs hnc'
  go_enter Try.func15, Try.ntmps15
  go_wp2_with (go_at_call 24; refine (eqB_true (L_wkInts _ _ _ xs xs (rd_alloc (rd_alloc hr0.out _) _) (rd_alloc (rd_alloc hs0.out _) _) hl hl)).mono ?_; rintro e w' ⟨rfl, n, rfl⟩)
  go_ret
  exact ⟨rfl, ((below_alloc _ _).trans ((below_alloc _ _).mono (by simp))).trans ((drewN_below _ _).mono (by simp; omega))⟩
end Go.Proofs.Ytkglngcopflgeaa
