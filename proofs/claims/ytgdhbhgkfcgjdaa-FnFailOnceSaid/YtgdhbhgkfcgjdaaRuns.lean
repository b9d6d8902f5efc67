/- The contract of l2Runs. -/
import Derived.Test.YtgdhbhgkfcgjdaaOnce
namespace Go.Proofs.Ytgdhbhgkfcgjdaa
open Go.RowKit
/-- Does the thread run the once? -/
def runs (s o k : Int) (xs : List Int) (t : Int) : Bool := oval s o k xs && decide (s = 1) && decide (o = t)

set_option maxHeartbeats 4000000 in
theorem S_l2Runs (w : World) (s o k : Int) (v : Value) (xs : List Int) (t : Int) (hr : Rd w v xs) (hl : xs.length ≤ 4294967296) :
    Calls Try.prog 52 #[.agg #[.int .i64 s, .int .i64 o, .int .i64 k, v], .int .i64 t] w fun e w' => e = .returned (.bool (runs s o k xs t)) ∧ Below w.heap.size w w' := by
  have HR := Lib.hid hr
  obtain ⟨a, cap, rfl, hcap, hnc, hr⟩ := hr
  clear hr hnc
  by_cases hv : oval s o k xs = true
  · by_cases h1 : s = 1
    · subst h1
      by_cases ho : o = t
      · subst ho
        have e0 : runs 1 o k xs o = true := by simp [runs, hv]
        rw [e0]; clear e0
        go_enter Try.func52, Try.ntmps52
        have T0 := Lib.hid (Below.refl w.heap.size w)
        go_wp2_with fail
        refine (S_OnceValid _ 1 o k _ xs (rd_alloc (rd_below HR.out T0.out) _) (by omega)).mono ?_
        rintro e w1 ⟨rfl, hb⟩
        have D1 : Below w.heap.size w w1 := below_trans (below_alloc _ _) (hb)
        have T1 := Lib.hid (below_trans T0.out D1)
        have z1 : w.heap.size + 1 ≤ w1.heap.size := (by have := hb.size; (try simp at this); omega)
        have c_A0_1 := cell_b (p := ⟨w.heap.size, 0, none⟩) (v := .int .i64 1) (by simp) hb
        have c_A1_1 := cell_b (p := ⟨w.heap.size, 1, none⟩) (v := .int .i64 o) (by simp) hb
        have c_A2_1 := cell_b (p := ⟨w.heap.size, 2, none⟩) (v := .int .i64 k) (by simp) hb
        have c_A3_1 := cell_b (p := ⟨w.heap.size, 3, none⟩) (v := .slice a xs.length cap) (by simp) hb
        have ac_A0_1 := fun o => cell_b c_A0_1 (below_alloc _ o)
        have ac_A1_1 := fun o => cell_b c_A1_1 (below_alloc _ o)
        have ac_A2_1 := fun o => cell_b c_A2_1 (below_alloc _ o)
        have ac_A3_1 := fun o => cell_b c_A3_1 (below_alloc _ o)
        clear hb D1 T0
        go_wp2_with fail
        all_goals go_ret
        all_goals exact ⟨by first | rfl | (simp; done) | simp_all, T1.out⟩
      · have e0 : runs 1 o k xs t = false := by simp [runs, ho]
        rw [e0]; clear e0
        go_enter Try.func52, Try.ntmps52
        have T0 := Lib.hid (Below.refl w.heap.size w)
        go_wp2_with fail
        refine (S_OnceValid _ 1 o k _ xs (rd_alloc (rd_below HR.out T0.out) _) (by omega)).mono ?_
        rintro e w1 ⟨rfl, hb⟩
        have D1 : Below w.heap.size w w1 := below_trans (below_alloc _ _) (hb)
        have T1 := Lib.hid (below_trans T0.out D1)
        have z1 : w.heap.size + 1 ≤ w1.heap.size := (by have := hb.size; (try simp at this); omega)
        have c_A0_1 := cell_b (p := ⟨w.heap.size, 0, none⟩) (v := .int .i64 1) (by simp) hb
        have c_A1_1 := cell_b (p := ⟨w.heap.size, 1, none⟩) (v := .int .i64 o) (by simp) hb
        have c_A2_1 := cell_b (p := ⟨w.heap.size, 2, none⟩) (v := .int .i64 k) (by simp) hb
        have c_A3_1 := cell_b (p := ⟨w.heap.size, 3, none⟩) (v := .slice a xs.length cap) (by simp) hb
        have ac_A0_1 := fun o => cell_b c_A0_1 (below_alloc _ o)
        have ac_A1_1 := fun o => cell_b c_A1_1 (below_alloc _ o)
        have ac_A2_1 := fun o => cell_b c_A2_1 (below_alloc _ o)
        have ac_A3_1 := fun o => cell_b c_A3_1 (below_alloc _ o)
        clear hb D1 T0
        go_wp2_with fail
        all_goals go_ret
        all_goals exact ⟨by first | rfl | (simp; done) | simp_all, T1.out⟩
    · have e0 : runs s o k xs t = false := by simp [runs, h1]
      rw [e0]; clear e0
      go_enter Try.func52, Try.ntmps52
      have T0 := Lib.hid (Below.refl w.heap.size w)
      go_wp2_with fail
      refine (S_OnceValid _ s o k _ xs (rd_alloc (rd_below HR.out T0.out) _) (by omega)).mono ?_
      rintro e w1 ⟨rfl, hb⟩
      have D1 : Below w.heap.size w w1 := below_trans (below_alloc _ _) (hb)
      have T1 := Lib.hid (below_trans T0.out D1)
      have z1 : w.heap.size + 1 ≤ w1.heap.size := (by have := hb.size; (try simp at this); omega)
      have c_A0_1 := cell_b (p := ⟨w.heap.size, 0, none⟩) (v := .int .i64 s) (by simp) hb
      have c_A1_1 := cell_b (p := ⟨w.heap.size, 1, none⟩) (v := .int .i64 o) (by simp) hb
      have c_A2_1 := cell_b (p := ⟨w.heap.size, 2, none⟩) (v := .int .i64 k) (by simp) hb
      have c_A3_1 := cell_b (p := ⟨w.heap.size, 3, none⟩) (v := .slice a xs.length cap) (by simp) hb
      have ac_A0_1 := fun o => cell_b c_A0_1 (below_alloc _ o)
      have ac_A1_1 := fun o => cell_b c_A1_1 (below_alloc _ o)
      have ac_A2_1 := fun o => cell_b c_A2_1 (below_alloc _ o)
      have ac_A3_1 := fun o => cell_b c_A3_1 (below_alloc _ o)
      clear hb D1 T0
      go_wp2_with fail
      all_goals go_ret
      all_goals exact ⟨by first | rfl | (simp; done) | simp_all, T1.out⟩
  · have hv' : oval s o k xs = false := by simpa using hv
    clear hv
    have e0 : runs s o k xs t = false := by simp [runs, hv']
    rw [e0]; clear e0
    go_enter Try.func52, Try.ntmps52
    have T0 := Lib.hid (Below.refl w.heap.size w)
    go_wp2_with fail
    refine (S_OnceValid _ s o k _ xs (rd_alloc (rd_below HR.out T0.out) _) (by omega)).mono ?_
    rintro e w1 ⟨rfl, hb⟩
    have D1 : Below w.heap.size w w1 := below_trans (below_alloc _ _) (hb)
    have T1 := Lib.hid (below_trans T0.out D1)
    have z1 : w.heap.size + 1 ≤ w1.heap.size := (by have := hb.size; (try simp at this); omega)
    have c_A0_1 := cell_b (p := ⟨w.heap.size, 0, none⟩) (v := .int .i64 s) (by simp) hb
    have c_A1_1 := cell_b (p := ⟨w.heap.size, 1, none⟩) (v := .int .i64 o) (by simp) hb
    have c_A2_1 := cell_b (p := ⟨w.heap.size, 2, none⟩) (v := .int .i64 k) (by simp) hb
    have c_A3_1 := cell_b (p := ⟨w.heap.size, 3, none⟩) (v := .slice a xs.length cap) (by simp) hb
    have ac_A0_1 := fun o => cell_b c_A0_1 (below_alloc _ o)
    have ac_A1_1 := fun o => cell_b c_A1_1 (below_alloc _ o)
    have ac_A2_1 := fun o => cell_b c_A2_1 (below_alloc _ o)
    have ac_A3_1 := fun o => cell_b c_A3_1 (below_alloc _ o)
    clear hb D1 T0
    go_wp2_with fail
    all_goals go_ret
    all_goals exact ⟨by first | rfl | (simp; done) | simp_all, T1.out⟩
end Go.Proofs.Ytgdhbhgkfcgjdaa
