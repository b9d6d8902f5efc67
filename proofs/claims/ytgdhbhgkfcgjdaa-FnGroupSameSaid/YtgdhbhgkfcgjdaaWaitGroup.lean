/- Contracts of WaitGroup. -/
import Derived.Test.YtgdhbhgkfcgjdaaGroup
import Derived.Deep.RegionHeld3
namespace Go.Proofs.Ytgdhbhgkfcgjdaa
open Go.RowKit
/-- What WaitGroup hands back: count, waits, passed, ok. -/
def wg (c : Int) (xs : List Int) (t : Int) : Int × List Int × Bool × Bool :=
  if (gval c xs && thr t && !hasB xs t) = true then (if c = 0 then (0, [], true, true) else (c, xs ++ [t], false, true)) else (0, [], false, false)
theorem wg_len (c : Int) (xs : List Int) (t : Int) : (wg c xs t).2.1.length ≤ xs.length + 1 := by unfold wg; split <;> (try split) <;> simp

set_option maxHeartbeats 4000000 in
set_option maxRecDepth 100000 in
theorem I_WaitGroup (w : World) (c : Int) (v : Value) (xs : List Int) (t : Int) (hr : Rd w v xs) (hl : xs.length ≤ 4294967296) :
    Calls Try.prog 18 #[.agg #[.int .i64 c, v], .int .i64 t] w fun e w' => ∃ a cap, e = .returned (.tuple #[.agg #[.int .i64 (wg c xs t).1, .slice a (wg c xs t).2.1.length cap], .bool (wg c xs t).2.2.1, .bool (wg c xs t).2.2.2]) ∧
      Ow w' w.heap.size (.slice a (wg c xs t).2.1.length cap) (wg c xs t).2.1 ∧ Below w.heap.size w w' := by
  obtain ⟨i0, hi, hz0, hz1, hz2⟩ := info_parts info3
  have HR := Lib.hid hr
  obtain ⟨a, cap, rfl, hcap, hnc, hr⟩ := hr
  clear hr hnc
  by_cases hv : gval c xs = true
  · by_cases ht : thr t = true
    · by_cases hh : hasB xs t = true
      · have e0 : wg c xs t = (0, [], false, false) := by simp [wg, hh]
        simp only [e0]
        clear e0
        have hat : 0 ≤ atF xs t := by have := hasB_at xs t; rw [hh] at this; simpa using this
        go_enter Try.func18, Try.ntmps18
        have T0 := Lib.hid (Below.refl w.heap.size w)
        go_wp2_with fail
        refine (I_GroupValid _ c _ xs (rd_alloc (rd_alloc (rd_below HR.out T0.out) _) _) (by first | omega | simp)).mono ?_
        rintro e w1 ⟨rfl, hb⟩
        have D1 : Below w.heap.size w w1 := below_trans (below_alloc _ _) (below_trans (below_alloc _ _) (hb))
        have T1 := Lib.hid (below_trans T0.out D1)
        have z1 : w.heap.size + 2 ≤ w1.heap.size := (by have := hb.size; (try simp at this); omega)
        have c_A0_1 := cell_b (p := ⟨w.heap.size, 0, none⟩) (v := .int .i64 c) (by simp) hb
        have c_A1_1 := cell_b (p := ⟨w.heap.size, 1, none⟩) (v := .slice a xs.length cap) (by simp) hb
        have c_R0_1 := cell_b (p := ⟨w.heap.size + 1, 0, none⟩) (v := .int .i64 0) (by simp) hb
        have f_R0_1 : w1.frozen? ⟨w.heap.size + 1, 0, none⟩ = false := (hb.frozen (p := ⟨w.heap.size + 1, 0, none⟩) (by simp; try omega)).trans (by simp)
        have c_R1_1 := cell_b (p := ⟨w.heap.size + 1, 1, none⟩) (v := .slice none 0 0) (by simp) hb
        have f_R1_1 : w1.frozen? ⟨w.heap.size + 1, 1, none⟩ = false := (hb.frozen (p := ⟨w.heap.size + 1, 1, none⟩) (by simp; try omega)).trans (by simp)
        have ac_A0_1 := fun o => cell_b c_A0_1 (below_alloc _ o)
        have bc_A0_1 := fun o o1 => cell_b (ac_A0_1 o) (below_alloc _ o1)
        have ac_A1_1 := fun o => cell_b c_A1_1 (below_alloc _ o)
        have bc_A1_1 := fun o o1 => cell_b (ac_A1_1 o) (below_alloc _ o1)
        have ac_R0_1 := fun o => cell_b c_R0_1 (below_alloc _ o)
        have bc_R0_1 := fun o o1 => cell_b (ac_R0_1 o) (below_alloc _ o1)
        have ac_R1_1 := fun o => cell_b c_R1_1 (below_alloc _ o)
        have bc_R1_1 := fun o o1 => cell_b (ac_R1_1 o) (below_alloc _ o1)
        have af_R0_1 := fun o => frz_b (cell_lt c_R0_1) f_R0_1 (below_alloc _ o)
        have bf_R0_1 := fun o o1 => frz_b (cell_lt (ac_R0_1 o)) (af_R0_1 o) (below_alloc _ o1)
        have af_R1_1 := fun o => frz_b (cell_lt c_R1_1) f_R1_1 (below_alloc _ o)
        have bf_R1_1 := fun o o1 => frz_b (cell_lt (ac_R1_1 o)) (af_R1_1 o) (below_alloc _ o1)
        clear hb D1 T0
        go_wp2_with fail
        refine (same_b (I_isThread _ t)).mono ?_
        rintro e w2 ⟨rfl, hb⟩
        have D2 : Below w1.heap.size w1 w2 := hb
        have c_A0_2 := cell_b c_A0_1 D2
        have c_A1_2 := cell_b c_A1_1 D2
        have c_R0_2 := cell_b c_R0_1 D2
        have c_R1_2 := cell_b c_R1_1 D2
        have f_R0_2 := (D2.frozen (p := ⟨w.heap.size + 1, 0, none⟩) (World.block_lt_of_cell? _ _ c_R0_1)).trans f_R0_1
        have f_R1_2 := (D2.frozen (p := ⟨w.heap.size + 1, 1, none⟩) (World.block_lt_of_cell? _ _ c_R1_1)).trans f_R1_1
        have T2 := Lib.hid (below_trans T1.out D2)
        have z2 : w1.heap.size ≤ w2.heap.size := (by have := hb.size; (try simp at this); omega)
        have ac_A0_2 := fun o => cell_b c_A0_2 (below_alloc _ o)
        have bc_A0_2 := fun o o1 => cell_b (ac_A0_2 o) (below_alloc _ o1)
        have ac_A1_2 := fun o => cell_b c_A1_2 (below_alloc _ o)
        have bc_A1_2 := fun o o1 => cell_b (ac_A1_2 o) (below_alloc _ o1)
        have ac_R0_2 := fun o => cell_b c_R0_2 (below_alloc _ o)
        have bc_R0_2 := fun o o1 => cell_b (ac_R0_2 o) (below_alloc _ o1)
        have ac_R1_2 := fun o => cell_b c_R1_2 (below_alloc _ o)
        have bc_R1_2 := fun o o1 => cell_b (ac_R1_2 o) (below_alloc _ o1)
        have af_R0_2 := fun o => frz_b (cell_lt c_R0_2) f_R0_2 (below_alloc _ o)
        have bf_R0_2 := fun o o1 => frz_b (cell_lt (ac_R0_2 o)) (af_R0_2 o) (below_alloc _ o1)
        have af_R1_2 := fun o => frz_b (cell_lt c_R1_2) f_R1_2 (below_alloc _ o)
        have bf_R1_2 := fun o o1 => frz_b (cell_lt (ac_R1_2 o)) (af_R1_2 o) (below_alloc _ o1)
        clear ac_A0_1 bc_A0_1 ac_A1_1 bc_A1_1 ac_R0_1 bc_R0_1 ac_R1_1 bc_R1_1 af_R0_1 bf_R0_1 af_R1_1 bf_R1_1 c_A0_1 c_A1_1 c_R0_1 c_R1_1 f_R0_1 f_R1_1 hb D2 T1
        go_wp2_with fail
        refine (same_b (slices_Contains _ _ xs t (rd_below HR.out T2.out) (by first | omega | simp))).mono ?_
        rintro e w3 ⟨rfl, hb⟩
        have D3 : Below w2.heap.size w2 w3 := hb
        have c_A0_3 := cell_b c_A0_2 D3
        have c_A1_3 := cell_b c_A1_2 D3
        have c_R0_3 := cell_b c_R0_2 D3
        have c_R1_3 := cell_b c_R1_2 D3
        have f_R0_3 := (D3.frozen (p := ⟨w.heap.size + 1, 0, none⟩) (World.block_lt_of_cell? _ _ c_R0_2)).trans f_R0_2
        have f_R1_3 := (D3.frozen (p := ⟨w.heap.size + 1, 1, none⟩) (World.block_lt_of_cell? _ _ c_R1_2)).trans f_R1_2
        have T3 := Lib.hid (below_trans T2.out D3)
        have z3 : w2.heap.size ≤ w3.heap.size := (by have := hb.size; (try simp at this); omega)
        have ac_A0_3 := fun o => cell_b c_A0_3 (below_alloc _ o)
        have bc_A0_3 := fun o o1 => cell_b (ac_A0_3 o) (below_alloc _ o1)
        have ac_A1_3 := fun o => cell_b c_A1_3 (below_alloc _ o)
        have bc_A1_3 := fun o o1 => cell_b (ac_A1_3 o) (below_alloc _ o1)
        have ac_R0_3 := fun o => cell_b c_R0_3 (below_alloc _ o)
        have bc_R0_3 := fun o o1 => cell_b (ac_R0_3 o) (below_alloc _ o1)
        have ac_R1_3 := fun o => cell_b c_R1_3 (below_alloc _ o)
        have bc_R1_3 := fun o o1 => cell_b (ac_R1_3 o) (below_alloc _ o1)
        have af_R0_3 := fun o => frz_b (cell_lt c_R0_3) f_R0_3 (below_alloc _ o)
        have bf_R0_3 := fun o o1 => frz_b (cell_lt (ac_R0_3 o)) (af_R0_3 o) (below_alloc _ o1)
        have af_R1_3 := fun o => frz_b (cell_lt c_R1_3) f_R1_3 (below_alloc _ o)
        have bf_R1_3 := fun o o1 => frz_b (cell_lt (ac_R1_3 o)) (af_R1_3 o) (below_alloc _ o1)
        clear ac_A0_2 bc_A0_2 ac_A1_2 bc_A1_2 ac_R0_2 bc_R0_2 ac_R1_2 bc_R1_2 af_R0_2 bf_R0_2 af_R1_2 bf_R1_2 c_A0_2 c_A1_2 c_R0_2 c_R1_2 f_R0_2 f_R1_2 hb D3 T2
        go_wp2_with fail
        refine bodyPost_ret (v := .tuple #[.agg #[.int .i64 0, .slice none 0 0], .bool false, .bool false]) (by simp [results, Try.results18, go_sem, c_R0_3, c_R1_3]) rfl ⟨_, _, rfl, ow_nil _ _, ((T3.out).setCell (by simp) _).setCell (by simp) _⟩
      · have hh' : hasB xs t = false := by simpa using hh
        clear hh
        by_cases hz : c = 0
        · obtain rfl := hz
          obtain rfl := (gval_in hv).2.2.2 rfl
          have e0 : wg 0 [] t = (0, [], true, true) := by simp [wg, hv, ht, hh']
          simp only [e0]
          clear e0
          have hat : atF ([] : List Int) t < 0 := by have := hasB_at ([] : List Int) t; rw [hh'] at this; simpa using this
          go_enter Try.func18, Try.ntmps18
          have T0 := Lib.hid (Below.refl w.heap.size w)
          go_wp2_with fail
          refine (I_GroupValid _ 0 _ [] (rd_alloc (rd_alloc (rd_below HR.out T0.out) _) _) (by first | omega | simp)).mono ?_
          rintro e w1 ⟨rfl, hb⟩
          have D1 : Below w.heap.size w w1 := below_trans (below_alloc _ _) (below_trans (below_alloc _ _) (hb))
          have T1 := Lib.hid (below_trans T0.out D1)
          have z1 : w.heap.size + 2 ≤ w1.heap.size := (by have := hb.size; (try simp at this); omega)
          have c_A0_1 := cell_b (p := ⟨w.heap.size, 0, none⟩) (v := .int .i64 0) (by simp) hb
          have c_A1_1 := cell_b (p := ⟨w.heap.size, 1, none⟩) (v := .slice a 0 cap) (by simp) hb
          have c_R0_1 := cell_b (p := ⟨w.heap.size + 1, 0, none⟩) (v := .int .i64 0) (by simp) hb
          have f_R0_1 : w1.frozen? ⟨w.heap.size + 1, 0, none⟩ = false := (hb.frozen (p := ⟨w.heap.size + 1, 0, none⟩) (by simp; try omega)).trans (by simp)
          have c_R1_1 := cell_b (p := ⟨w.heap.size + 1, 1, none⟩) (v := .slice none 0 0) (by simp) hb
          have f_R1_1 : w1.frozen? ⟨w.heap.size + 1, 1, none⟩ = false := (hb.frozen (p := ⟨w.heap.size + 1, 1, none⟩) (by simp; try omega)).trans (by simp)
          have ac_A0_1 := fun o => cell_b c_A0_1 (below_alloc _ o)
          have bc_A0_1 := fun o o1 => cell_b (ac_A0_1 o) (below_alloc _ o1)
          have ac_A1_1 := fun o => cell_b c_A1_1 (below_alloc _ o)
          have bc_A1_1 := fun o o1 => cell_b (ac_A1_1 o) (below_alloc _ o1)
          have ac_R0_1 := fun o => cell_b c_R0_1 (below_alloc _ o)
          have bc_R0_1 := fun o o1 => cell_b (ac_R0_1 o) (below_alloc _ o1)
          have ac_R1_1 := fun o => cell_b c_R1_1 (below_alloc _ o)
          have bc_R1_1 := fun o o1 => cell_b (ac_R1_1 o) (below_alloc _ o1)
          have af_R0_1 := fun o => frz_b (cell_lt c_R0_1) f_R0_1 (below_alloc _ o)
          have bf_R0_1 := fun o o1 => frz_b (cell_lt (ac_R0_1 o)) (af_R0_1 o) (below_alloc _ o1)
          have af_R1_1 := fun o => frz_b (cell_lt c_R1_1) f_R1_1 (below_alloc _ o)
          have bf_R1_1 := fun o o1 => frz_b (cell_lt (ac_R1_1 o)) (af_R1_1 o) (below_alloc _ o1)
          clear hb D1 T0
          go_wp2_with fail
          refine (same_b (I_isThread _ t)).mono ?_
          rintro e w2 ⟨rfl, hb⟩
          have D2 : Below w1.heap.size w1 w2 := hb
          have c_A0_2 := cell_b c_A0_1 D2
          have c_A1_2 := cell_b c_A1_1 D2
          have c_R0_2 := cell_b c_R0_1 D2
          have c_R1_2 := cell_b c_R1_1 D2
          have f_R0_2 := (D2.frozen (p := ⟨w.heap.size + 1, 0, none⟩) (World.block_lt_of_cell? _ _ c_R0_1)).trans f_R0_1
          have f_R1_2 := (D2.frozen (p := ⟨w.heap.size + 1, 1, none⟩) (World.block_lt_of_cell? _ _ c_R1_1)).trans f_R1_1
          have T2 := Lib.hid (below_trans T1.out D2)
          have z2 : w1.heap.size ≤ w2.heap.size := (by have := hb.size; (try simp at this); omega)
          have ac_A0_2 := fun o => cell_b c_A0_2 (below_alloc _ o)
          have bc_A0_2 := fun o o1 => cell_b (ac_A0_2 o) (below_alloc _ o1)
          have ac_A1_2 := fun o => cell_b c_A1_2 (below_alloc _ o)
          have bc_A1_2 := fun o o1 => cell_b (ac_A1_2 o) (below_alloc _ o1)
          have ac_R0_2 := fun o => cell_b c_R0_2 (below_alloc _ o)
          have bc_R0_2 := fun o o1 => cell_b (ac_R0_2 o) (below_alloc _ o1)
          have ac_R1_2 := fun o => cell_b c_R1_2 (below_alloc _ o)
          have bc_R1_2 := fun o o1 => cell_b (ac_R1_2 o) (below_alloc _ o1)
          have af_R0_2 := fun o => frz_b (cell_lt c_R0_2) f_R0_2 (below_alloc _ o)
          have bf_R0_2 := fun o o1 => frz_b (cell_lt (ac_R0_2 o)) (af_R0_2 o) (below_alloc _ o1)
          have af_R1_2 := fun o => frz_b (cell_lt c_R1_2) f_R1_2 (below_alloc _ o)
          have bf_R1_2 := fun o o1 => frz_b (cell_lt (ac_R1_2 o)) (af_R1_2 o) (below_alloc _ o1)
          clear ac_A0_1 bc_A0_1 ac_A1_1 bc_A1_1 ac_R0_1 bc_R0_1 ac_R1_1 bc_R1_1 af_R0_1 bf_R0_1 af_R1_1 bf_R1_1 c_A0_1 c_A1_1 c_R0_1 c_R1_1 f_R0_1 f_R1_1 hb D2 T1
          go_wp2_with fail
          refine (same_b (slices_Contains _ _ [] t (rd_below HR.out T2.out) (by first | omega | simp))).mono ?_
          rintro e w3 ⟨rfl, hb⟩
          have D3 : Below w2.heap.size w2 w3 := hb
          have c_A0_3 := cell_b c_A0_2 D3
          have c_A1_3 := cell_b c_A1_2 D3
          have c_R0_3 := cell_b c_R0_2 D3
          have c_R1_3 := cell_b c_R1_2 D3
          have f_R0_3 := (D3.frozen (p := ⟨w.heap.size + 1, 0, none⟩) (World.block_lt_of_cell? _ _ c_R0_2)).trans f_R0_2
          have f_R1_3 := (D3.frozen (p := ⟨w.heap.size + 1, 1, none⟩) (World.block_lt_of_cell? _ _ c_R1_2)).trans f_R1_2
          have T3 := Lib.hid (below_trans T2.out D3)
          have z3 : w2.heap.size ≤ w3.heap.size := (by have := hb.size; (try simp at this); omega)
          have ac_A0_3 := fun o => cell_b c_A0_3 (below_alloc _ o)
          have bc_A0_3 := fun o o1 => cell_b (ac_A0_3 o) (below_alloc _ o1)
          have ac_A1_3 := fun o => cell_b c_A1_3 (below_alloc _ o)
          have bc_A1_3 := fun o o1 => cell_b (ac_A1_3 o) (below_alloc _ o1)
          have ac_R0_3 := fun o => cell_b c_R0_3 (below_alloc _ o)
          have bc_R0_3 := fun o o1 => cell_b (ac_R0_3 o) (below_alloc _ o1)
          have ac_R1_3 := fun o => cell_b c_R1_3 (below_alloc _ o)
          have bc_R1_3 := fun o o1 => cell_b (ac_R1_3 o) (below_alloc _ o1)
          have af_R0_3 := fun o => frz_b (cell_lt c_R0_3) f_R0_3 (below_alloc _ o)
          have bf_R0_3 := fun o o1 => frz_b (cell_lt (ac_R0_3 o)) (af_R0_3 o) (below_alloc _ o1)
          have af_R1_3 := fun o => frz_b (cell_lt c_R1_3) f_R1_3 (below_alloc _ o)
          have bf_R1_3 := fun o o1 => frz_b (cell_lt (ac_R1_3 o)) (af_R1_3 o) (below_alloc _ o1)
          clear ac_A0_2 bc_A0_2 ac_A1_2 bc_A1_2 ac_R0_2 bc_R0_2 ac_R1_2 bc_R1_2 af_R0_2 bf_R0_2 af_R1_2 bf_R1_2 c_A0_2 c_A1_2 c_R0_2 c_R1_2 f_R0_2 f_R1_2 hb D3 T2
          go_wp2_with fail
          refine bodyPost_ret (v := .tuple #[.agg #[.int .i64 0, .slice none 0 0], .bool true, .bool true]) (by simp [results, Try.results18, go_sem, c_R0_3, c_R1_3]) rfl ⟨_, _, rfl, ow_nil _ _, ((T3.out).setCell (by simp) _).setCell (by simp) _⟩
        · have hz' : ¬ c = 0 := by omega
          clear hz
          have e0 : wg c xs t = (c, xs ++ [t], false, true) := by simp [wg, hv, ht, hh', hz']
          simp only [e0]
          clear e0
          have hat : atF xs t < 0 := by have := hasB_at xs t; rw [hh'] at this; simpa using this
          have hl6 := (gval_in hv).2.2.1
          go_enter Try.func18, Try.ntmps18
          have T0 := Lib.hid (Below.refl w.heap.size w)
          go_wp2_with fail
          refine (I_GroupValid _ c _ xs (rd_alloc (rd_alloc (rd_below HR.out T0.out) _) _) (by first | omega | simp)).mono ?_
          rintro e w1 ⟨rfl, hb⟩
          have D1 : Below w.heap.size w w1 := below_trans (below_alloc _ _) (below_trans (below_alloc _ _) (hb))
          have T1 := Lib.hid (below_trans T0.out D1)
          have z1 : w.heap.size + 2 ≤ w1.heap.size := (by have := hb.size; (try simp at this); omega)
          have c_A0_1 := cell_b (p := ⟨w.heap.size, 0, none⟩) (v := .int .i64 c) (by simp) hb
          have c_A1_1 := cell_b (p := ⟨w.heap.size, 1, none⟩) (v := .slice a xs.length cap) (by simp) hb
          have c_R0_1 := cell_b (p := ⟨w.heap.size + 1, 0, none⟩) (v := .int .i64 0) (by simp) hb
          have f_R0_1 : w1.frozen? ⟨w.heap.size + 1, 0, none⟩ = false := (hb.frozen (p := ⟨w.heap.size + 1, 0, none⟩) (by simp; try omega)).trans (by simp)
          have c_R1_1 := cell_b (p := ⟨w.heap.size + 1, 1, none⟩) (v := .slice none 0 0) (by simp) hb
          have f_R1_1 : w1.frozen? ⟨w.heap.size + 1, 1, none⟩ = false := (hb.frozen (p := ⟨w.heap.size + 1, 1, none⟩) (by simp; try omega)).trans (by simp)
          have ac_A0_1 := fun o => cell_b c_A0_1 (below_alloc _ o)
          have bc_A0_1 := fun o o1 => cell_b (ac_A0_1 o) (below_alloc _ o1)
          have ac_A1_1 := fun o => cell_b c_A1_1 (below_alloc _ o)
          have bc_A1_1 := fun o o1 => cell_b (ac_A1_1 o) (below_alloc _ o1)
          have ac_R0_1 := fun o => cell_b c_R0_1 (below_alloc _ o)
          have bc_R0_1 := fun o o1 => cell_b (ac_R0_1 o) (below_alloc _ o1)
          have ac_R1_1 := fun o => cell_b c_R1_1 (below_alloc _ o)
          have bc_R1_1 := fun o o1 => cell_b (ac_R1_1 o) (below_alloc _ o1)
          have af_R0_1 := fun o => frz_b (cell_lt c_R0_1) f_R0_1 (below_alloc _ o)
          have bf_R0_1 := fun o o1 => frz_b (cell_lt (ac_R0_1 o)) (af_R0_1 o) (below_alloc _ o1)
          have af_R1_1 := fun o => frz_b (cell_lt c_R1_1) f_R1_1 (below_alloc _ o)
          have bf_R1_1 := fun o o1 => frz_b (cell_lt (ac_R1_1 o)) (af_R1_1 o) (below_alloc _ o1)
          clear hb D1 T0
          go_wp2_with fail
          refine (same_b (I_isThread _ t)).mono ?_
          rintro e w2 ⟨rfl, hb⟩
          have D2 : Below w1.heap.size w1 w2 := hb
          have c_A0_2 := cell_b c_A0_1 D2
          have c_A1_2 := cell_b c_A1_1 D2
          have c_R0_2 := cell_b c_R0_1 D2
          have c_R1_2 := cell_b c_R1_1 D2
          have f_R0_2 := (D2.frozen (p := ⟨w.heap.size + 1, 0, none⟩) (World.block_lt_of_cell? _ _ c_R0_1)).trans f_R0_1
          have f_R1_2 := (D2.frozen (p := ⟨w.heap.size + 1, 1, none⟩) (World.block_lt_of_cell? _ _ c_R1_1)).trans f_R1_1
          have T2 := Lib.hid (below_trans T1.out D2)
          have z2 : w1.heap.size ≤ w2.heap.size := (by have := hb.size; (try simp at this); omega)
          have ac_A0_2 := fun o => cell_b c_A0_2 (below_alloc _ o)
          have bc_A0_2 := fun o o1 => cell_b (ac_A0_2 o) (below_alloc _ o1)
          have ac_A1_2 := fun o => cell_b c_A1_2 (below_alloc _ o)
          have bc_A1_2 := fun o o1 => cell_b (ac_A1_2 o) (below_alloc _ o1)
          have ac_R0_2 := fun o => cell_b c_R0_2 (below_alloc _ o)
          have bc_R0_2 := fun o o1 => cell_b (ac_R0_2 o) (below_alloc _ o1)
          have ac_R1_2 := fun o => cell_b c_R1_2 (below_alloc _ o)
          have bc_R1_2 := fun o o1 => cell_b (ac_R1_2 o) (below_alloc _ o1)
          have af_R0_2 := fun o => frz_b (cell_lt c_R0_2) f_R0_2 (below_alloc _ o)
          have bf_R0_2 := fun o o1 => frz_b (cell_lt (ac_R0_2 o)) (af_R0_2 o) (below_alloc _ o1)
          have af_R1_2 := fun o => frz_b (cell_lt c_R1_2) f_R1_2 (below_alloc _ o)
          have bf_R1_2 := fun o o1 => frz_b (cell_lt (ac_R1_2 o)) (af_R1_2 o) (below_alloc _ o1)
          clear ac_A0_1 bc_A0_1 ac_A1_1 bc_A1_1 ac_R0_1 bc_R0_1 ac_R1_1 bc_R1_1 af_R0_1 bf_R0_1 af_R1_1 bf_R1_1 c_A0_1 c_A1_1 c_R0_1 c_R1_1 f_R0_1 f_R1_1 hb D2 T1
          go_wp2_with fail
          refine (same_b (slices_Contains _ _ xs t (rd_below HR.out T2.out) (by first | omega | simp))).mono ?_
          rintro e w3 ⟨rfl, hb⟩
          have D3 : Below w2.heap.size w2 w3 := hb
          have c_A0_3 := cell_b c_A0_2 D3
          have c_A1_3 := cell_b c_A1_2 D3
          have c_R0_3 := cell_b c_R0_2 D3
          have c_R1_3 := cell_b c_R1_2 D3
          have f_R0_3 := (D3.frozen (p := ⟨w.heap.size + 1, 0, none⟩) (World.block_lt_of_cell? _ _ c_R0_2)).trans f_R0_2
          have f_R1_3 := (D3.frozen (p := ⟨w.heap.size + 1, 1, none⟩) (World.block_lt_of_cell? _ _ c_R1_2)).trans f_R1_2
          have T3 := Lib.hid (below_trans T2.out D3)
          have z3 : w2.heap.size ≤ w3.heap.size := (by have := hb.size; (try simp at this); omega)
          have ac_A0_3 := fun o => cell_b c_A0_3 (below_alloc _ o)
          have bc_A0_3 := fun o o1 => cell_b (ac_A0_3 o) (below_alloc _ o1)
          have ac_A1_3 := fun o => cell_b c_A1_3 (below_alloc _ o)
          have bc_A1_3 := fun o o1 => cell_b (ac_A1_3 o) (below_alloc _ o1)
          have ac_R0_3 := fun o => cell_b c_R0_3 (below_alloc _ o)
          have bc_R0_3 := fun o o1 => cell_b (ac_R0_3 o) (below_alloc _ o1)
          have ac_R1_3 := fun o => cell_b c_R1_3 (below_alloc _ o)
          have bc_R1_3 := fun o o1 => cell_b (ac_R1_3 o) (below_alloc _ o1)
          have af_R0_3 := fun o => frz_b (cell_lt c_R0_3) f_R0_3 (below_alloc _ o)
          have bf_R0_3 := fun o o1 => frz_b (cell_lt (ac_R0_3 o)) (af_R0_3 o) (below_alloc _ o1)
          have af_R1_3 := fun o => frz_b (cell_lt c_R1_3) f_R1_3 (below_alloc _ o)
          have bf_R1_3 := fun o o1 => frz_b (cell_lt (ac_R1_3 o)) (af_R1_3 o) (below_alloc _ o1)
          clear ac_A0_2 bc_A0_2 ac_A1_2 bc_A1_2 ac_R0_2 bc_R0_2 ac_R1_2 bc_R1_2 af_R0_2 bf_R0_2 af_R1_2 bf_R1_2 c_A0_2 c_A1_2 c_R0_2 c_R1_2 f_R0_2 f_R1_2 hb D3 T2
          have HT1 := Lib.hid (rd_below HR.out T3.out)
          have hQ : Below w3.heap.size w3 ((w3.alloc (.cells #[.int .i64 t] 3)).drew) := below_trans (below_alloc _ _) (drew_below _)
          have hD : Below w3.heap.size w3 w3.drew := drew_below _
          have l_A0 := cell_b c_A0_3 hQ
          have n_A0 := cell_b c_A0_3 hD
          have l_A1 := cell_b c_A1_3 hQ
          have n_A1 := cell_b c_A1_3 hD
          have l_R0 := cell_b c_R0_3 hQ
          have n_R0 := cell_b c_R0_3 hD
          have l_R1 := cell_b c_R1_3 hQ
          have n_R1 := cell_b c_R1_3 hD
          have m_R0 := frz_b (cell_lt c_R0_3) f_R0_3 hQ
          have o_R0 := frz_b (cell_lt c_R0_3) f_R0_3 hD
          have m_R1 := frz_b (cell_lt c_R1_3) f_R1_3 hQ
          have o_R1 := frz_b (cell_lt c_R1_3) f_R1_3 hD
          go_wp2_with fail
          go_region_held3 (fun w' => w'.cell? ⟨w.heap.size, 0, none⟩ = some (.int .i64 c) ∧ w'.cell? ⟨w.heap.size, 1, none⟩ = some (.slice a xs.length cap)) (first | with_reducible exact ⟨c_A0_3, c_A1_3⟩ | with_reducible exact ⟨ac_A0_3 _, ac_A1_3 _⟩ | with_reducible exact ⟨l_A0, l_A1⟩ | with_reducible exact ⟨n_A0, n_A1⟩ | with_reducible exact ⟨c_A0_4, c_A1_4⟩ | with_reducible exact ⟨ac_A0_4 _, ac_A1_4 _⟩ | with_reducible exact ⟨c_A0_5, c_A1_5⟩ | go_keep)
            (first | (go_at_call 46; refine (I_cloneInts _ _ xs (rd_below HT1.out hD) hl).mono ?_; rintro e w4 ⟨a4, cap4, rfl, hd, hb⟩; have c_A0_4 := cell_b n_A0 hb; have ac_A0_4 := fun o => cell_b c_A0_4 (below_alloc _ o); have c_A1_4 := cell_b n_A1 hb; have ac_A1_4 := fun o => cell_b c_A1_4 (below_alloc _ o); have c_R0_4 := cell_b n_R0 hb; have ac_R0_4 := fun o => cell_b c_R0_4 (below_alloc _ o); have c_R1_4 := cell_b n_R1 hb; have ac_R1_4 := fun o => cell_b c_R1_4 (below_alloc _ o); have f_R0_4 := frz_b (cell_lt n_R0) o_R0 hb; have af_R0_4 := fun o => frz_b (cell_lt c_R0_4) f_R0_4 (below_alloc _ o); have f_R1_4 := frz_b (cell_lt n_R1) o_R1 hb; have af_R1_4 := fun o => frz_b (cell_lt c_R1_4) f_R1_4 (below_alloc _ o); have T4 := Lib.hid (below_trans T3.out (below_trans hD hb)); have HD := Lib.hid hd; have LO := Lib.hid (own_lo hd); have HI := Lib.hid (own_hi hd); have HB := Lib.hid hb; clear hd hb) | (go_at_call 46; refine (I_cloneInts _ _ xs (rd_below HT1.out hQ) hl).mono ?_; rintro e w4 ⟨a4, cap4, rfl, hd, hb⟩; have c_A0_4 := cell_b l_A0 hb; have ac_A0_4 := fun o => cell_b c_A0_4 (below_alloc _ o); have c_A1_4 := cell_b l_A1 hb; have ac_A1_4 := fun o => cell_b c_A1_4 (below_alloc _ o); have c_R0_4 := cell_b l_R0 hb; have ac_R0_4 := fun o => cell_b c_R0_4 (below_alloc _ o); have c_R1_4 := cell_b l_R1 hb; have ac_R1_4 := fun o => cell_b c_R1_4 (below_alloc _ o); have f_R0_4 := frz_b (cell_lt l_R0) m_R0 hb; have af_R0_4 := fun o => frz_b (cell_lt c_R0_4) f_R0_4 (below_alloc _ o); have f_R1_4 := frz_b (cell_lt l_R1) m_R1 hb; have af_R1_4 := fun o => frz_b (cell_lt c_R1_4) f_R1_4 (below_alloc _ o); have T4 := Lib.hid (below_trans T3.out (below_trans hQ hb)); have HD := Lib.hid hd; have LO := Lib.hid (own_lo hd); have HI := Lib.hid (own_hi hd); have HB := Lib.hid hb; clear hd hb) | (refine step_append_rd (w := w4.alloc (.cells #[.int .i64 t] 3)) rfl _ _ 23 rfl (w3.drew.heap.size) i0 Try.underlying23 hi hz0 hz1 hz2 (.slice a4 xs.length cap4) xs.length xs rfl (own_below HD.out (below_alloc _ _)) _ _ _ [t] rfl (own_rd (ow_one w4 t w4.heap.size _ rfl (Nat.le_refl _))) rfl (by unfold maxLen; simp; omega) (by simp; omega) (by have h5 := HB.out.size; exact Nat.le_trans h5 (below_alloc _ _).size) ?_; intro v5 w5 hown hgrow hloc; obtain ⟨a5, cap5, hv5⟩ := own_shape hown; subst hv5; have c_A0_5 := cell_gr (ac_A0_4 _) hgrow (fun g1 h1 => by have h2 := LO.out g1 h1; have h3 := T3.out.size; have h4 : w3.heap.size ≤ w3.drew.heap.size := (by first | exact hQ.size | exact hD.size); show w.heap.size ≠ _; omega); have c_A1_5 := cell_gr (ac_A1_4 _) hgrow (fun g1 h1 => by have h2 := LO.out g1 h1; have h3 := T3.out.size; have h4 : w3.heap.size ≤ w3.drew.heap.size := (by first | exact hQ.size | exact hD.size); show w.heap.size ≠ _; omega); have c_R0_5 := cell_gr (ac_R0_4 _) hgrow (fun g1 h1 => by have h2 := LO.out g1 h1; have h3 := T3.out.size; have h4 : w3.heap.size ≤ w3.drew.heap.size := (by first | exact hQ.size | exact hD.size); show w.heap.size + 1 ≠ _; omega); have c_R1_5 := cell_gr (ac_R1_4 _) hgrow (fun g1 h1 => by have h2 := LO.out g1 h1; have h3 := T3.out.size; have h4 : w3.heap.size ≤ w3.drew.heap.size := (by first | exact hQ.size | exact hD.size); show w.heap.size + 1 ≠ _; omega); have f_R0_5 := (frz_gr (p := ⟨w.heap.size + 1, 0, none⟩) (cell_lt (ac_R0_4 _)) hgrow (fun g1 h1 => by have h2 := LO.out g1 h1; have h3 := T3.out.size; have h4 : w3.heap.size ≤ w3.drew.heap.size := (by first | exact hQ.size | exact hD.size); show w.heap.size + 1 ≠ _; omega)).trans (af_R0_4 _); have f_R1_5 := (frz_gr (p := ⟨w.heap.size + 1, 1, none⟩) (cell_lt (ac_R1_4 _)) hgrow (fun g1 h1 => by have h2 := LO.out g1 h1; have h3 := T3.out.size; have h4 : w3.heap.size ≤ w3.drew.heap.size := (by first | exact hQ.size | exact hD.size); show w.heap.size + 1 ≠ _; omega)).trans (af_R1_4 _); have T5 := Lib.hid (below_gr (T4.out.alloc T4.out.size _) (by have h9 := T4.out.size; simp; try omega) hgrow (fun g1 h1 => by have h2 := LO.out g1 h1; have h3 := T3.out.size; have h4 : w3.heap.size ≤ w3.drew.heap.size := (by first | exact hQ.size | exact hD.size); omega)); have O5 : Hid (Ow w5 w3.heap.size (.slice a5 (xs.length + 1) cap5) (xs ++ [t])) := Lib.hid (own_base (b := w3.drew.heap.size) (show w5.ownsRow (w3.drew.heap.size) 3 1 (.slice a5 (xs.length + 1) cap5) (xs ++ [t]).length (ints (xs ++ [t])) from (by rw [show (xs ++ [t]).length = xs.length + 1 from by simp]; exact hown)) (by first | exact hQ.size | exact hD.size)); clear hown hgrow hloc) | (refine step_append_rd (w := w4) rfl _ _ 23 rfl (((w3.alloc (.cells #[.int .i64 t] 3)).drew).heap.size) i0 Try.underlying23 hi hz0 hz1 hz2 (.slice a4 xs.length cap4) xs.length xs rfl HD.out _ _ _ [t] rfl (own_rd (own_below (own_below (ow_one w3 t w3.heap.size _ rfl (Nat.le_refl _)) (drew_below _)) HB.out)) rfl (by unfold maxLen; simp; omega) (by simp; omega) (by have h5 := HB.out.size; exact h5) ?_; intro v5 w5 hown hgrow hloc; obtain ⟨a5, cap5, hv5⟩ := own_shape hown; subst hv5; have c_A0_5 := cell_gr (c_A0_4) hgrow (fun g1 h1 => by have h2 := LO.out g1 h1; have h3 := T3.out.size; have h4 : w3.heap.size ≤ ((w3.alloc (.cells #[.int .i64 t] 3)).drew).heap.size := (by first | exact hQ.size | exact hD.size); show w.heap.size ≠ _; omega); have c_A1_5 := cell_gr (c_A1_4) hgrow (fun g1 h1 => by have h2 := LO.out g1 h1; have h3 := T3.out.size; have h4 : w3.heap.size ≤ ((w3.alloc (.cells #[.int .i64 t] 3)).drew).heap.size := (by first | exact hQ.size | exact hD.size); show w.heap.size ≠ _; omega); have c_R0_5 := cell_gr (c_R0_4) hgrow (fun g1 h1 => by have h2 := LO.out g1 h1; have h3 := T3.out.size; have h4 : w3.heap.size ≤ ((w3.alloc (.cells #[.int .i64 t] 3)).drew).heap.size := (by first | exact hQ.size | exact hD.size); show w.heap.size + 1 ≠ _; omega); have c_R1_5 := cell_gr (c_R1_4) hgrow (fun g1 h1 => by have h2 := LO.out g1 h1; have h3 := T3.out.size; have h4 : w3.heap.size ≤ ((w3.alloc (.cells #[.int .i64 t] 3)).drew).heap.size := (by first | exact hQ.size | exact hD.size); show w.heap.size + 1 ≠ _; omega); have f_R0_5 := (frz_gr (p := ⟨w.heap.size + 1, 0, none⟩) (cell_lt (c_R0_4)) hgrow (fun g1 h1 => by have h2 := LO.out g1 h1; have h3 := T3.out.size; have h4 : w3.heap.size ≤ ((w3.alloc (.cells #[.int .i64 t] 3)).drew).heap.size := (by first | exact hQ.size | exact hD.size); show w.heap.size + 1 ≠ _; omega)).trans (f_R0_4); have f_R1_5 := (frz_gr (p := ⟨w.heap.size + 1, 1, none⟩) (cell_lt (c_R1_4)) hgrow (fun g1 h1 => by have h2 := LO.out g1 h1; have h3 := T3.out.size; have h4 : w3.heap.size ≤ ((w3.alloc (.cells #[.int .i64 t] 3)).drew).heap.size := (by first | exact hQ.size | exact hD.size); show w.heap.size + 1 ≠ _; omega)).trans (f_R1_4); have T5 := Lib.hid (below_gr T4.out (by have h9 := T4.out.size; simp; try omega) hgrow (fun g1 h1 => by have h2 := LO.out g1 h1; have h3 := T3.out.size; have h4 : w3.heap.size ≤ ((w3.alloc (.cells #[.int .i64 t] 3)).drew).heap.size := (by first | exact hQ.size | exact hD.size); omega)); have O5 : Hid (Ow w5 w3.heap.size (.slice a5 (xs.length + 1) cap5) (xs ++ [t])) := Lib.hid (own_base (b := ((w3.alloc (.cells #[.int .i64 t] 3)).drew).heap.size) (show w5.ownsRow (((w3.alloc (.cells #[.int .i64 t] 3)).drew).heap.size) 3 1 (.slice a5 (xs.length + 1) cap5) (xs ++ [t]).length (ints (xs ++ [t])) from (by rw [show (xs ++ [t]).length = xs.length + 1 from by simp]; exact hown)) (by first | exact hQ.size | exact hD.size)); clear hown hgrow hloc))
          all_goals go_wp2_with fail
          all_goals
            refine bodyPost_ret (v := .tuple #[.agg #[.int .i64 c, .slice a5 (xs.length + 1) cap5], .bool false, .bool true]) (by simp [results, Try.results18, go_sem, c_R0_5, c_R1_5]) rfl ⟨a5, cap5, by simp, ?_, ((T5.out).setCell (by simp) _).setCell (by simp) _⟩
            simp only [List.length_append, List.length_cons, List.length_nil]
            refine own_base (b := w3.heap.size) ?_ (by have := T3.out.size; omega)
            repeat (first | exact O5.out | refine ownsRow_setCell_below ?_ (by show _ + 1 < _; omega) _)
    · have ht' : thr t = false := by simpa using ht
      clear ht
      have e0 : wg c xs t = (0, [], false, false) := by simp [wg, ht']
      simp only [e0]
      clear e0
      go_enter Try.func18, Try.ntmps18
      have T0 := Lib.hid (Below.refl w.heap.size w)
      go_wp2_with fail
      refine (I_GroupValid _ c _ xs (rd_alloc (rd_alloc (rd_below HR.out T0.out) _) _) (by first | omega | simp)).mono ?_
      rintro e w1 ⟨rfl, hb⟩
      have D1 : Below w.heap.size w w1 := below_trans (below_alloc _ _) (below_trans (below_alloc _ _) (hb))
      have T1 := Lib.hid (below_trans T0.out D1)
      have z1 : w.heap.size + 2 ≤ w1.heap.size := (by have := hb.size; (try simp at this); omega)
      have c_A0_1 := cell_b (p := ⟨w.heap.size, 0, none⟩) (v := .int .i64 c) (by simp) hb
      have c_A1_1 := cell_b (p := ⟨w.heap.size, 1, none⟩) (v := .slice a xs.length cap) (by simp) hb
      have c_R0_1 := cell_b (p := ⟨w.heap.size + 1, 0, none⟩) (v := .int .i64 0) (by simp) hb
      have f_R0_1 : w1.frozen? ⟨w.heap.size + 1, 0, none⟩ = false := (hb.frozen (p := ⟨w.heap.size + 1, 0, none⟩) (by simp; try omega)).trans (by simp)
      have c_R1_1 := cell_b (p := ⟨w.heap.size + 1, 1, none⟩) (v := .slice none 0 0) (by simp) hb
      have f_R1_1 : w1.frozen? ⟨w.heap.size + 1, 1, none⟩ = false := (hb.frozen (p := ⟨w.heap.size + 1, 1, none⟩) (by simp; try omega)).trans (by simp)
      have ac_A0_1 := fun o => cell_b c_A0_1 (below_alloc _ o)
      have bc_A0_1 := fun o o1 => cell_b (ac_A0_1 o) (below_alloc _ o1)
      have ac_A1_1 := fun o => cell_b c_A1_1 (below_alloc _ o)
      have bc_A1_1 := fun o o1 => cell_b (ac_A1_1 o) (below_alloc _ o1)
      have ac_R0_1 := fun o => cell_b c_R0_1 (below_alloc _ o)
      have bc_R0_1 := fun o o1 => cell_b (ac_R0_1 o) (below_alloc _ o1)
      have ac_R1_1 := fun o => cell_b c_R1_1 (below_alloc _ o)
      have bc_R1_1 := fun o o1 => cell_b (ac_R1_1 o) (below_alloc _ o1)
      have af_R0_1 := fun o => frz_b (cell_lt c_R0_1) f_R0_1 (below_alloc _ o)
      have bf_R0_1 := fun o o1 => frz_b (cell_lt (ac_R0_1 o)) (af_R0_1 o) (below_alloc _ o1)
      have af_R1_1 := fun o => frz_b (cell_lt c_R1_1) f_R1_1 (below_alloc _ o)
      have bf_R1_1 := fun o o1 => frz_b (cell_lt (ac_R1_1 o)) (af_R1_1 o) (below_alloc _ o1)
      clear hb D1 T0
      go_wp2_with fail
      refine (same_b (I_isThread _ t)).mono ?_
      rintro e w2 ⟨rfl, hb⟩
      have D2 : Below w1.heap.size w1 w2 := hb
      have c_A0_2 := cell_b c_A0_1 D2
      have c_A1_2 := cell_b c_A1_1 D2
      have c_R0_2 := cell_b c_R0_1 D2
      have c_R1_2 := cell_b c_R1_1 D2
      have f_R0_2 := (D2.frozen (p := ⟨w.heap.size + 1, 0, none⟩) (World.block_lt_of_cell? _ _ c_R0_1)).trans f_R0_1
      have f_R1_2 := (D2.frozen (p := ⟨w.heap.size + 1, 1, none⟩) (World.block_lt_of_cell? _ _ c_R1_1)).trans f_R1_1
      have T2 := Lib.hid (below_trans T1.out D2)
      have z2 : w1.heap.size ≤ w2.heap.size := (by have := hb.size; (try simp at this); omega)
      have ac_A0_2 := fun o => cell_b c_A0_2 (below_alloc _ o)
      have bc_A0_2 := fun o o1 => cell_b (ac_A0_2 o) (below_alloc _ o1)
      have ac_A1_2 := fun o => cell_b c_A1_2 (below_alloc _ o)
      have bc_A1_2 := fun o o1 => cell_b (ac_A1_2 o) (below_alloc _ o1)
      have ac_R0_2 := fun o => cell_b c_R0_2 (below_alloc _ o)
      have bc_R0_2 := fun o o1 => cell_b (ac_R0_2 o) (below_alloc _ o1)
      have ac_R1_2 := fun o => cell_b c_R1_2 (below_alloc _ o)
      have bc_R1_2 := fun o o1 => cell_b (ac_R1_2 o) (below_alloc _ o1)
      have af_R0_2 := fun o => frz_b (cell_lt c_R0_2) f_R0_2 (below_alloc _ o)
      have bf_R0_2 := fun o o1 => frz_b (cell_lt (ac_R0_2 o)) (af_R0_2 o) (below_alloc _ o1)
      have af_R1_2 := fun o => frz_b (cell_lt c_R1_2) f_R1_2 (below_alloc _ o)
      have bf_R1_2 := fun o o1 => frz_b (cell_lt (ac_R1_2 o)) (af_R1_2 o) (below_alloc _ o1)
      clear ac_A0_1 bc_A0_1 ac_A1_1 bc_A1_1 ac_R0_1 bc_R0_1 ac_R1_1 bc_R1_1 af_R0_1 bf_R0_1 af_R1_1 bf_R1_1 c_A0_1 c_A1_1 c_R0_1 c_R1_1 f_R0_1 f_R1_1 hb D2 T1
      go_wp2_with fail
      refine bodyPost_ret (v := .tuple #[.agg #[.int .i64 0, .slice none 0 0], .bool false, .bool false]) (by simp [results, Try.results18, go_sem, c_R0_2, c_R1_2]) rfl ⟨_, _, rfl, ow_nil _ _, ((T2.out).setCell (by simp) _).setCell (by simp) _⟩
  · have hv' : gval c xs = false := by simpa using hv
    clear hv
    have e0 : wg c xs t = (0, [], false, false) := by simp [wg, hv']
    simp only [e0]
    clear e0
    go_enter Try.func18, Try.ntmps18
    have T0 := Lib.hid (Below.refl w.heap.size w)
    go_wp2_with fail
    refine (I_GroupValid _ c _ xs (rd_alloc (rd_alloc (rd_below HR.out T0.out) _) _) (by first | omega | simp)).mono ?_
    rintro e w1 ⟨rfl, hb⟩
    have D1 : Below w.heap.size w w1 := below_trans (below_alloc _ _) (below_trans (below_alloc _ _) (hb))
    have T1 := Lib.hid (below_trans T0.out D1)
    have z1 : w.heap.size + 2 ≤ w1.heap.size := (by have := hb.size; (try simp at this); omega)
    have c_A0_1 := cell_b (p := ⟨w.heap.size, 0, none⟩) (v := .int .i64 c) (by simp) hb
    have c_A1_1 := cell_b (p := ⟨w.heap.size, 1, none⟩) (v := .slice a xs.length cap) (by simp) hb
    have c_R0_1 := cell_b (p := ⟨w.heap.size + 1, 0, none⟩) (v := .int .i64 0) (by simp) hb
    have f_R0_1 : w1.frozen? ⟨w.heap.size + 1, 0, none⟩ = false := (hb.frozen (p := ⟨w.heap.size + 1, 0, none⟩) (by simp; try omega)).trans (by simp)
    have c_R1_1 := cell_b (p := ⟨w.heap.size + 1, 1, none⟩) (v := .slice none 0 0) (by simp) hb
    have f_R1_1 : w1.frozen? ⟨w.heap.size + 1, 1, none⟩ = false := (hb.frozen (p := ⟨w.heap.size + 1, 1, none⟩) (by simp; try omega)).trans (by simp)
    have ac_A0_1 := fun o => cell_b c_A0_1 (below_alloc _ o)
    have bc_A0_1 := fun o o1 => cell_b (ac_A0_1 o) (below_alloc _ o1)
    have ac_A1_1 := fun o => cell_b c_A1_1 (below_alloc _ o)
    have bc_A1_1 := fun o o1 => cell_b (ac_A1_1 o) (below_alloc _ o1)
    have ac_R0_1 := fun o => cell_b c_R0_1 (below_alloc _ o)
    have bc_R0_1 := fun o o1 => cell_b (ac_R0_1 o) (below_alloc _ o1)
    have ac_R1_1 := fun o => cell_b c_R1_1 (below_alloc _ o)
    have bc_R1_1 := fun o o1 => cell_b (ac_R1_1 o) (below_alloc _ o1)
    have af_R0_1 := fun o => frz_b (cell_lt c_R0_1) f_R0_1 (below_alloc _ o)
    have bf_R0_1 := fun o o1 => frz_b (cell_lt (ac_R0_1 o)) (af_R0_1 o) (below_alloc _ o1)
    have af_R1_1 := fun o => frz_b (cell_lt c_R1_1) f_R1_1 (below_alloc _ o)
    have bf_R1_1 := fun o o1 => frz_b (cell_lt (ac_R1_1 o)) (af_R1_1 o) (below_alloc _ o1)
    clear hb D1 T0
    go_wp2_with fail
    refine bodyPost_ret (v := .tuple #[.agg #[.int .i64 0, .slice none 0 0], .bool false, .bool false]) (by simp [results, Try.results18, go_sem, c_R0_1, c_R1_1]) rfl ⟨_, _, rfl, ow_nil _ _, ((T1.out).setCell (by simp) _).setCell (by simp) _⟩

set_option maxHeartbeats 4000000 in
set_option maxRecDepth 100000 in
theorem S_WaitGroup (w : World) (c : Int) (v : Value) (xs : List Int) (t : Int) (hr : Rd w v xs) (hl : xs.length ≤ 4294967296) :
    Calls Try.prog 19 #[.agg #[.int .i64 c, v], .int .i64 t] w fun e w' => ∃ a cap, e = .returned (.tuple #[.agg #[.int .i64 (wg c xs t).1, .slice a (wg c xs t).2.1.length cap], .bool (wg c xs t).2.2.1, .bool (wg c xs t).2.2.2]) ∧
      Ow w' w.heap.size (.slice a (wg c xs t).2.1.length cap) (wg c xs t).2.1 ∧ Below w.heap.size w w' := by
  obtain ⟨i0, hi, hz0, hz1, hz2⟩ := info_parts info3
  have HR := Lib.hid hr
  obtain ⟨a, cap, rfl, hcap, hnc, hr⟩ := hr
  clear hr hnc
  by_cases hv : gval c xs = true
  · by_cases ht : thr t = true
    · by_cases hh : hasB xs t = true
      · have e0 : wg c xs t = (0, [], false, false) := by simp [wg, hh]
        simp only [e0]
        clear e0
        have hat : 0 ≤ atF xs t := by have := hasB_at xs t; rw [hh] at this; simpa using this
        go_enter Try.func19, Try.ntmps19
        have T0 := Lib.hid (Below.refl w.heap.size w)
        go_wp2_with fail
        refine (S_GroupValid _ c _ xs (rd_alloc (rd_alloc (rd_below HR.out T0.out) _) _) (by first | omega | simp)).mono ?_
        rintro e w1 ⟨rfl, hb⟩
        have D1 : Below w.heap.size w w1 := below_trans (below_alloc _ _) (below_trans (below_alloc _ _) (hb))
        have T1 := Lib.hid (below_trans T0.out D1)
        have z1 : w.heap.size + 2 ≤ w1.heap.size := (by have := hb.size; (try simp at this); omega)
        have c_A0_1 := cell_b (p := ⟨w.heap.size, 0, none⟩) (v := .int .i64 c) (by simp) hb
        have c_A1_1 := cell_b (p := ⟨w.heap.size, 1, none⟩) (v := .slice a xs.length cap) (by simp) hb
        have c_R0_1 := cell_b (p := ⟨w.heap.size + 1, 0, none⟩) (v := .int .i64 0) (by simp) hb
        have f_R0_1 : w1.frozen? ⟨w.heap.size + 1, 0, none⟩ = false := (hb.frozen (p := ⟨w.heap.size + 1, 0, none⟩) (by simp; try omega)).trans (by simp)
        have c_R1_1 := cell_b (p := ⟨w.heap.size + 1, 1, none⟩) (v := .slice none 0 0) (by simp) hb
        have f_R1_1 : w1.frozen? ⟨w.heap.size + 1, 1, none⟩ = false := (hb.frozen (p := ⟨w.heap.size + 1, 1, none⟩) (by simp; try omega)).trans (by simp)
        have ac_A0_1 := fun o => cell_b c_A0_1 (below_alloc _ o)
        have bc_A0_1 := fun o o1 => cell_b (ac_A0_1 o) (below_alloc _ o1)
        have ac_A1_1 := fun o => cell_b c_A1_1 (below_alloc _ o)
        have bc_A1_1 := fun o o1 => cell_b (ac_A1_1 o) (below_alloc _ o1)
        have ac_R0_1 := fun o => cell_b c_R0_1 (below_alloc _ o)
        have bc_R0_1 := fun o o1 => cell_b (ac_R0_1 o) (below_alloc _ o1)
        have ac_R1_1 := fun o => cell_b c_R1_1 (below_alloc _ o)
        have bc_R1_1 := fun o o1 => cell_b (ac_R1_1 o) (below_alloc _ o1)
        have af_R0_1 := fun o => frz_b (cell_lt c_R0_1) f_R0_1 (below_alloc _ o)
        have bf_R0_1 := fun o o1 => frz_b (cell_lt (ac_R0_1 o)) (af_R0_1 o) (below_alloc _ o1)
        have af_R1_1 := fun o => frz_b (cell_lt c_R1_1) f_R1_1 (below_alloc _ o)
        have bf_R1_1 := fun o o1 => frz_b (cell_lt (ac_R1_1 o)) (af_R1_1 o) (below_alloc _ o1)
        clear hb D1 T0
        go_wp2_with fail
        refine (same_b (S_l1Thread _ t)).mono ?_
        rintro e w2 ⟨rfl, hb⟩
        have D2 : Below w1.heap.size w1 w2 := hb
        have c_A0_2 := cell_b c_A0_1 D2
        have c_A1_2 := cell_b c_A1_1 D2
        have c_R0_2 := cell_b c_R0_1 D2
        have c_R1_2 := cell_b c_R1_1 D2
        have f_R0_2 := (D2.frozen (p := ⟨w.heap.size + 1, 0, none⟩) (World.block_lt_of_cell? _ _ c_R0_1)).trans f_R0_1
        have f_R1_2 := (D2.frozen (p := ⟨w.heap.size + 1, 1, none⟩) (World.block_lt_of_cell? _ _ c_R1_1)).trans f_R1_1
        have T2 := Lib.hid (below_trans T1.out D2)
        have z2 : w1.heap.size ≤ w2.heap.size := (by have := hb.size; (try simp at this); omega)
        have ac_A0_2 := fun o => cell_b c_A0_2 (below_alloc _ o)
        have bc_A0_2 := fun o o1 => cell_b (ac_A0_2 o) (below_alloc _ o1)
        have ac_A1_2 := fun o => cell_b c_A1_2 (below_alloc _ o)
        have bc_A1_2 := fun o o1 => cell_b (ac_A1_2 o) (below_alloc _ o1)
        have ac_R0_2 := fun o => cell_b c_R0_2 (below_alloc _ o)
        have bc_R0_2 := fun o o1 => cell_b (ac_R0_2 o) (below_alloc _ o1)
        have ac_R1_2 := fun o => cell_b c_R1_2 (below_alloc _ o)
        have bc_R1_2 := fun o o1 => cell_b (ac_R1_2 o) (below_alloc _ o1)
        have af_R0_2 := fun o => frz_b (cell_lt c_R0_2) f_R0_2 (below_alloc _ o)
        have bf_R0_2 := fun o o1 => frz_b (cell_lt (ac_R0_2 o)) (af_R0_2 o) (below_alloc _ o1)
        have af_R1_2 := fun o => frz_b (cell_lt c_R1_2) f_R1_2 (below_alloc _ o)
        have bf_R1_2 := fun o o1 => frz_b (cell_lt (ac_R1_2 o)) (af_R1_2 o) (below_alloc _ o1)
        clear ac_A0_1 bc_A0_1 ac_A1_1 bc_A1_1 ac_R0_1 bc_R0_1 ac_R1_1 bc_R1_1 af_R0_1 bf_R0_1 af_R1_1 bf_R1_1 c_A0_1 c_A1_1 c_R0_1 c_R1_1 f_R0_1 f_R1_1 hb D2 T1
        go_wp2_with fail
        refine (same_b (S_l2At _ _ xs t (rd_below HR.out T2.out) (by first | omega | simp))).mono ?_
        rintro e w3 ⟨rfl, hb⟩
        have D3 : Below w2.heap.size w2 w3 := hb
        have c_A0_3 := cell_b c_A0_2 D3
        have c_A1_3 := cell_b c_A1_2 D3
        have c_R0_3 := cell_b c_R0_2 D3
        have c_R1_3 := cell_b c_R1_2 D3
        have f_R0_3 := (D3.frozen (p := ⟨w.heap.size + 1, 0, none⟩) (World.block_lt_of_cell? _ _ c_R0_2)).trans f_R0_2
        have f_R1_3 := (D3.frozen (p := ⟨w.heap.size + 1, 1, none⟩) (World.block_lt_of_cell? _ _ c_R1_2)).trans f_R1_2
        have T3 := Lib.hid (below_trans T2.out D3)
        have z3 : w2.heap.size ≤ w3.heap.size := (by have := hb.size; (try simp at this); omega)
        have ac_A0_3 := fun o => cell_b c_A0_3 (below_alloc _ o)
        have bc_A0_3 := fun o o1 => cell_b (ac_A0_3 o) (below_alloc _ o1)
        have ac_A1_3 := fun o => cell_b c_A1_3 (below_alloc _ o)
        have bc_A1_3 := fun o o1 => cell_b (ac_A1_3 o) (below_alloc _ o1)
        have ac_R0_3 := fun o => cell_b c_R0_3 (below_alloc _ o)
        have bc_R0_3 := fun o o1 => cell_b (ac_R0_3 o) (below_alloc _ o1)
        have ac_R1_3 := fun o => cell_b c_R1_3 (below_alloc _ o)
        have bc_R1_3 := fun o o1 => cell_b (ac_R1_3 o) (below_alloc _ o1)
        have af_R0_3 := fun o => frz_b (cell_lt c_R0_3) f_R0_3 (below_alloc _ o)
        have bf_R0_3 := fun o o1 => frz_b (cell_lt (ac_R0_3 o)) (af_R0_3 o) (below_alloc _ o1)
        have af_R1_3 := fun o => frz_b (cell_lt c_R1_3) f_R1_3 (below_alloc _ o)
        have bf_R1_3 := fun o o1 => frz_b (cell_lt (ac_R1_3 o)) (af_R1_3 o) (below_alloc _ o1)
        clear ac_A0_2 bc_A0_2 ac_A1_2 bc_A1_2 ac_R0_2 bc_R0_2 ac_R1_2 bc_R1_2 af_R0_2 bf_R0_2 af_R1_2 bf_R1_2 c_A0_2 c_A1_2 c_R0_2 c_R1_2 f_R0_2 f_R1_2 hb D3 T2
        go_wp2_with fail
        refine bodyPost_ret (v := .tuple #[.agg #[.int .i64 0, .slice none 0 0], .bool false, .bool false]) (by simp [results, Try.results19, go_sem, c_R0_3, c_R1_3]) rfl ⟨_, _, rfl, ow_nil _ _, ((T3.out).setCell (by simp) _).setCell (by simp) _⟩
      · have hh' : hasB xs t = false := by simpa using hh
        clear hh
        by_cases hz : c = 0
        · obtain rfl := hz
          obtain rfl := (gval_in hv).2.2.2 rfl
          have e0 : wg 0 [] t = (0, [], true, true) := by simp [wg, hv, ht, hh']
          simp only [e0]
          clear e0
          have hat : atF ([] : List Int) t < 0 := by have := hasB_at ([] : List Int) t; rw [hh'] at this; simpa using this
          go_enter Try.func19, Try.ntmps19
          have T0 := Lib.hid (Below.refl w.heap.size w)
          go_wp2_with fail
          refine (S_GroupValid _ 0 _ [] (rd_alloc (rd_alloc (rd_below HR.out T0.out) _) _) (by first | omega | simp)).mono ?_
          rintro e w1 ⟨rfl, hb⟩
          have D1 : Below w.heap.size w w1 := below_trans (below_alloc _ _) (below_trans (below_alloc _ _) (hb))
          have T1 := Lib.hid (below_trans T0.out D1)
          have z1 : w.heap.size + 2 ≤ w1.heap.size := (by have := hb.size; (try simp at this); omega)
          have c_A0_1 := cell_b (p := ⟨w.heap.size, 0, none⟩) (v := .int .i64 0) (by simp) hb
          have c_A1_1 := cell_b (p := ⟨w.heap.size, 1, none⟩) (v := .slice a 0 cap) (by simp) hb
          have c_R0_1 := cell_b (p := ⟨w.heap.size + 1, 0, none⟩) (v := .int .i64 0) (by simp) hb
          have f_R0_1 : w1.frozen? ⟨w.heap.size + 1, 0, none⟩ = false := (hb.frozen (p := ⟨w.heap.size + 1, 0, none⟩) (by simp; try omega)).trans (by simp)
          have c_R1_1 := cell_b (p := ⟨w.heap.size + 1, 1, none⟩) (v := .slice none 0 0) (by simp) hb
          have f_R1_1 : w1.frozen? ⟨w.heap.size + 1, 1, none⟩ = false := (hb.frozen (p := ⟨w.heap.size + 1, 1, none⟩) (by simp; try omega)).trans (by simp)
          have ac_A0_1 := fun o => cell_b c_A0_1 (below_alloc _ o)
          have bc_A0_1 := fun o o1 => cell_b (ac_A0_1 o) (below_alloc _ o1)
          have ac_A1_1 := fun o => cell_b c_A1_1 (below_alloc _ o)
          have bc_A1_1 := fun o o1 => cell_b (ac_A1_1 o) (below_alloc _ o1)
          have ac_R0_1 := fun o => cell_b c_R0_1 (below_alloc _ o)
          have bc_R0_1 := fun o o1 => cell_b (ac_R0_1 o) (below_alloc _ o1)
          have ac_R1_1 := fun o => cell_b c_R1_1 (below_alloc _ o)
          have bc_R1_1 := fun o o1 => cell_b (ac_R1_1 o) (below_alloc _ o1)
          have af_R0_1 := fun o => frz_b (cell_lt c_R0_1) f_R0_1 (below_alloc _ o)
          have bf_R0_1 := fun o o1 => frz_b (cell_lt (ac_R0_1 o)) (af_R0_1 o) (below_alloc _ o1)
          have af_R1_1 := fun o => frz_b (cell_lt c_R1_1) f_R1_1 (below_alloc _ o)
          have bf_R1_1 := fun o o1 => frz_b (cell_lt (ac_R1_1 o)) (af_R1_1 o) (below_alloc _ o1)
          clear hb D1 T0
          go_wp2_with fail
          refine (same_b (S_l1Thread _ t)).mono ?_
          rintro e w2 ⟨rfl, hb⟩
          have D2 : Below w1.heap.size w1 w2 := hb
          have c_A0_2 := cell_b c_A0_1 D2
          have c_A1_2 := cell_b c_A1_1 D2
          have c_R0_2 := cell_b c_R0_1 D2
          have c_R1_2 := cell_b c_R1_1 D2
          have f_R0_2 := (D2.frozen (p := ⟨w.heap.size + 1, 0, none⟩) (World.block_lt_of_cell? _ _ c_R0_1)).trans f_R0_1
          have f_R1_2 := (D2.frozen (p := ⟨w.heap.size + 1, 1, none⟩) (World.block_lt_of_cell? _ _ c_R1_1)).trans f_R1_1
          have T2 := Lib.hid (below_trans T1.out D2)
          have z2 : w1.heap.size ≤ w2.heap.size := (by have := hb.size; (try simp at this); omega)
          have ac_A0_2 := fun o => cell_b c_A0_2 (below_alloc _ o)
          have bc_A0_2 := fun o o1 => cell_b (ac_A0_2 o) (below_alloc _ o1)
          have ac_A1_2 := fun o => cell_b c_A1_2 (below_alloc _ o)
          have bc_A1_2 := fun o o1 => cell_b (ac_A1_2 o) (below_alloc _ o1)
          have ac_R0_2 := fun o => cell_b c_R0_2 (below_alloc _ o)
          have bc_R0_2 := fun o o1 => cell_b (ac_R0_2 o) (below_alloc _ o1)
          have ac_R1_2 := fun o => cell_b c_R1_2 (below_alloc _ o)
          have bc_R1_2 := fun o o1 => cell_b (ac_R1_2 o) (below_alloc _ o1)
          have af_R0_2 := fun o => frz_b (cell_lt c_R0_2) f_R0_2 (below_alloc _ o)
          have bf_R0_2 := fun o o1 => frz_b (cell_lt (ac_R0_2 o)) (af_R0_2 o) (below_alloc _ o1)
          have af_R1_2 := fun o => frz_b (cell_lt c_R1_2) f_R1_2 (below_alloc _ o)
          have bf_R1_2 := fun o o1 => frz_b (cell_lt (ac_R1_2 o)) (af_R1_2 o) (below_alloc _ o1)
          clear ac_A0_1 bc_A0_1 ac_A1_1 bc_A1_1 ac_R0_1 bc_R0_1 ac_R1_1 bc_R1_1 af_R0_1 bf_R0_1 af_R1_1 bf_R1_1 c_A0_1 c_A1_1 c_R0_1 c_R1_1 f_R0_1 f_R1_1 hb D2 T1
          go_wp2_with fail
          refine (same_b (S_l2At _ _ [] t (rd_below HR.out T2.out) (by first | omega | simp))).mono ?_
          rintro e w3 ⟨rfl, hb⟩
          have D3 : Below w2.heap.size w2 w3 := hb
          have c_A0_3 := cell_b c_A0_2 D3
          have c_A1_3 := cell_b c_A1_2 D3
          have c_R0_3 := cell_b c_R0_2 D3
          have c_R1_3 := cell_b c_R1_2 D3
          have f_R0_3 := (D3.frozen (p := ⟨w.heap.size + 1, 0, none⟩) (World.block_lt_of_cell? _ _ c_R0_2)).trans f_R0_2
          have f_R1_3 := (D3.frozen (p := ⟨w.heap.size + 1, 1, none⟩) (World.block_lt_of_cell? _ _ c_R1_2)).trans f_R1_2
          have T3 := Lib.hid (below_trans T2.out D3)
          have z3 : w2.heap.size ≤ w3.heap.size := (by have := hb.size; (try simp at this); omega)
          have ac_A0_3 := fun o => cell_b c_A0_3 (below_alloc _ o)
          have bc_A0_3 := fun o o1 => cell_b (ac_A0_3 o) (below_alloc _ o1)
          have ac_A1_3 := fun o => cell_b c_A1_3 (below_alloc _ o)
          have bc_A1_3 := fun o o1 => cell_b (ac_A1_3 o) (below_alloc _ o1)
          have ac_R0_3 := fun o => cell_b c_R0_3 (below_alloc _ o)
          have bc_R0_3 := fun o o1 => cell_b (ac_R0_3 o) (below_alloc _ o1)
          have ac_R1_3 := fun o => cell_b c_R1_3 (below_alloc _ o)
          have bc_R1_3 := fun o o1 => cell_b (ac_R1_3 o) (below_alloc _ o1)
          have af_R0_3 := fun o => frz_b (cell_lt c_R0_3) f_R0_3 (below_alloc _ o)
          have bf_R0_3 := fun o o1 => frz_b (cell_lt (ac_R0_3 o)) (af_R0_3 o) (below_alloc _ o1)
          have af_R1_3 := fun o => frz_b (cell_lt c_R1_3) f_R1_3 (below_alloc _ o)
          have bf_R1_3 := fun o o1 => frz_b (cell_lt (ac_R1_3 o)) (af_R1_3 o) (below_alloc _ o1)
          clear ac_A0_2 bc_A0_2 ac_A1_2 bc_A1_2 ac_R0_2 bc_R0_2 ac_R1_2 bc_R1_2 af_R0_2 bf_R0_2 af_R1_2 bf_R1_2 c_A0_2 c_A1_2 c_R0_2 c_R1_2 f_R0_2 f_R1_2 hb D3 T2
          have HT1 := Lib.hid (rd_below HR.out T3.out)
          have hl6 := (gval_in hv).2.2.1
          have hP0 : Below w3.heap.size w3 ((w3.alloc (.cells #[] 3)).drew) := (below_trans (below_alloc _ _) (drew_below _))
          have hS0 := hP0.size
          have HT5 := Lib.hid (rd_below HT1.out hP0)
          have l0_R0 := cell_b c_R0_3 hP0
          have l0_R1 := cell_b c_R1_3 hP0
          have l0_A0 := cell_b c_A0_3 hP0
          have l0_A1 := cell_b c_A1_3 hP0
          have m0_R0 := frz_b (cell_lt c_R0_3) f_R0_3 hP0
          have m0_R1 := frz_b (cell_lt c_R1_3) f_R1_3 hP0
          have hP1 : Below w3.heap.size w3 (((w3.alloc (.cells #[] 3)).alloc (.cells #[.int .i64 0, .slice none 0 0] 25)).drew) := (below_trans (below_alloc _ _) (below_trans (below_alloc _ _) (drew_below _)))
          have hS1 := hP1.size
          have HT6 := Lib.hid (rd_below HT1.out hP1)
          have l1_R0 := cell_b c_R0_3 hP1
          have l1_R1 := cell_b c_R1_3 hP1
          have l1_A0 := cell_b c_A0_3 hP1
          have l1_A1 := cell_b c_A1_3 hP1
          have m1_R0 := frz_b (cell_lt c_R0_3) f_R0_3 hP1
          have m1_R1 := frz_b (cell_lt c_R1_3) f_R1_3 hP1
          have hP2 : Below w3.heap.size w3 (((w3.alloc (.cells #[.int .i64 0, .slice none 0 0] 25)).alloc (.cells #[] 3)).drew) := (below_trans (below_alloc _ _) (below_trans (below_alloc _ _) (drew_below _)))
          have hS2 := hP2.size
          have HT7 := Lib.hid (rd_below HT1.out hP2)
          have l2_R0 := cell_b c_R0_3 hP2
          have l2_R1 := cell_b c_R1_3 hP2
          have l2_A0 := cell_b c_A0_3 hP2
          have l2_A1 := cell_b c_A1_3 hP2
          have m2_R0 := frz_b (cell_lt c_R0_3) f_R0_3 hP2
          have m2_R1 := frz_b (cell_lt c_R1_3) f_R1_3 hP2
          have l1_O0 : (((w3.alloc (.cells #[] 3)).alloc (.cells #[.int .i64 0, .slice none 0 0] 25)).drew).cell? ⟨w3.heap.size + 1, 0, none⟩ = some (.int .i64 0) := cell_b (show (((w3.alloc (.cells #[] 3)).alloc (.cells #[.int .i64 0, .slice none 0 0] 25))).cell? ⟨w3.heap.size + 1, 0, none⟩ = some (.int .i64 0) by simp) (drew_below _)
          have m1_O0 : (((w3.alloc (.cells #[] 3)).alloc (.cells #[.int .i64 0, .slice none 0 0] 25)).drew).frozen? ⟨w3.heap.size + 1, 0, none⟩ = false := frz_b (w := ((w3.alloc (.cells #[] 3)).alloc (.cells #[.int .i64 0, .slice none 0 0] 25))) (show _ < _ by simp; try omega) (show (((w3.alloc (.cells #[] 3)).alloc (.cells #[.int .i64 0, .slice none 0 0] 25))).frozen? ⟨w3.heap.size + 1, 0, none⟩ = false by simp) (drew_below _)
          have l1_O1 : (((w3.alloc (.cells #[] 3)).alloc (.cells #[.int .i64 0, .slice none 0 0] 25)).drew).cell? ⟨w3.heap.size + 1, 1, none⟩ = some (.slice none 0 0) := cell_b (show (((w3.alloc (.cells #[] 3)).alloc (.cells #[.int .i64 0, .slice none 0 0] 25))).cell? ⟨w3.heap.size + 1, 1, none⟩ = some (.slice none 0 0) by simp) (drew_below _)
          have m1_O1 : (((w3.alloc (.cells #[] 3)).alloc (.cells #[.int .i64 0, .slice none 0 0] 25)).drew).frozen? ⟨w3.heap.size + 1, 1, none⟩ = false := frz_b (w := ((w3.alloc (.cells #[] 3)).alloc (.cells #[.int .i64 0, .slice none 0 0] 25))) (show _ < _ by simp; try omega) (show (((w3.alloc (.cells #[] 3)).alloc (.cells #[.int .i64 0, .slice none 0 0] 25))).frozen? ⟨w3.heap.size + 1, 1, none⟩ = false by simp) (drew_below _)
          have l2_O0 : (((w3.alloc (.cells #[.int .i64 0, .slice none 0 0] 25)).alloc (.cells #[] 3)).drew).cell? ⟨w3.heap.size, 0, none⟩ = some (.int .i64 0) := cell_b (show (((w3.alloc (.cells #[.int .i64 0, .slice none 0 0] 25)).alloc (.cells #[] 3))).cell? ⟨w3.heap.size, 0, none⟩ = some (.int .i64 0) by simp) (drew_below _)
          have m2_O0 : (((w3.alloc (.cells #[.int .i64 0, .slice none 0 0] 25)).alloc (.cells #[] 3)).drew).frozen? ⟨w3.heap.size, 0, none⟩ = false := frz_b (w := ((w3.alloc (.cells #[.int .i64 0, .slice none 0 0] 25)).alloc (.cells #[] 3))) (show _ < _ by simp; try omega) (show (((w3.alloc (.cells #[.int .i64 0, .slice none 0 0] 25)).alloc (.cells #[] 3))).frozen? ⟨w3.heap.size, 0, none⟩ = false by simp) (drew_below _)
          have l2_O1 : (((w3.alloc (.cells #[.int .i64 0, .slice none 0 0] 25)).alloc (.cells #[] 3)).drew).cell? ⟨w3.heap.size, 1, none⟩ = some (.slice none 0 0) := cell_b (show (((w3.alloc (.cells #[.int .i64 0, .slice none 0 0] 25)).alloc (.cells #[] 3))).cell? ⟨w3.heap.size, 1, none⟩ = some (.slice none 0 0) by simp) (drew_below _)
          have m2_O1 : (((w3.alloc (.cells #[.int .i64 0, .slice none 0 0] 25)).alloc (.cells #[] 3)).drew).frozen? ⟨w3.heap.size, 1, none⟩ = false := frz_b (w := ((w3.alloc (.cells #[.int .i64 0, .slice none 0 0] 25)).alloc (.cells #[] 3))) (show _ < _ by simp; try omega) (show (((w3.alloc (.cells #[.int .i64 0, .slice none 0 0] 25)).alloc (.cells #[] 3))).frozen? ⟨w3.heap.size, 1, none⟩ = false by simp) (drew_below _)
          have n_A0 := cell_b c_A0_3 (drew_below _)
          have n_A1 := cell_b c_A1_3 (drew_below _)
          go_wp2_with fail
          go_region_held3 (fun w' => w'.cell? ⟨w.heap.size, 0, none⟩ = some (.int .i64 0) ∧ w'.cell? ⟨w.heap.size, 1, none⟩ = some (.slice a 0 cap)) (first | with_reducible exact ⟨c_A0_3, c_A1_3⟩ | with_reducible exact ⟨ac_A0_3 _, ac_A1_3 _⟩ | with_reducible exact ⟨bc_A0_3 _ _, bc_A1_3 _ _⟩ | with_reducible exact ⟨n_A0, n_A1⟩ | with_reducible exact ⟨l0_A0, l0_A1⟩ | with_reducible exact ⟨l1_A0, l1_A1⟩ | with_reducible exact ⟨l2_A0, l2_A1⟩ | with_reducible exact ⟨c_A0_4, c_A1_4⟩ | with_reducible exact ⟨ac_A0_4 _, ac_A1_4 _⟩ | exact ⟨(World.cell?_setCell_far _ _ _ _ (by simp; omega)).trans ((World.cell?_setCell_far _ _ _ _ (by simp; omega)).trans c_A0_4), (World.cell?_setCell_far _ _ _ _ (by simp; omega)).trans ((World.cell?_setCell_far _ _ _ _ (by simp; omega)).trans c_A1_4)⟩ | go_keep)
            (first | (refine step_append_rd (w := (w3.alloc (.cells #[] 3)).drew) rfl _ _ 23 rfl (w3.heap.size) i0 Try.underlying23 hi hz0 hz1 hz2 (.slice (some ⟨w3.heap.size, 0, none⟩) 0 0) 0 [] rfl (own_below (World.ownsRow_made (base := w3.heap.size) (e := 3) (size := 1) w3 #[] 0 (Nat.le_refl _) (by unfold maxLen; omega) rfl) (drew_below _)) _ _ _ ([]) rfl HT5.out rfl (by first | (unfold maxLen; simp; done) | (unfold maxLen; omega)) (by first | (simp; done) | omega) hS0 ?_; intro v4 w4 hown hgrow hloc; have hd : w4.ownsRow w3.heap.size 3 1 v4 ([]).length (ints ([])) := (by rw [Nat.zero_add, List.nil_append] at hown; exact hown); obtain ⟨a4, cap4, hv4⟩ := own_shape hd; subst hv4; have c_R0_4 := cell_gr l0_R0 hgrow (fun g1 h1 => by simp only [Value.ownBlock, Option.some.injEq] at h1; show w.heap.size + 1 ≠ _; omega); have ac_R0_4 := fun o => cell_b c_R0_4 (below_alloc _ o); have c_R1_4 := cell_gr l0_R1 hgrow (fun g1 h1 => by simp only [Value.ownBlock, Option.some.injEq] at h1; show w.heap.size + 1 ≠ _; omega); have ac_R1_4 := fun o => cell_b c_R1_4 (below_alloc _ o); have c_A0_4 := cell_gr l0_A0 hgrow (fun g1 h1 => by simp only [Value.ownBlock, Option.some.injEq] at h1; show w.heap.size ≠ _; omega); have ac_A0_4 := fun o => cell_b c_A0_4 (below_alloc _ o); have c_A1_4 := cell_gr l0_A1 hgrow (fun g1 h1 => by simp only [Value.ownBlock, Option.some.injEq] at h1; show w.heap.size ≠ _; omega); have ac_A1_4 := fun o => cell_b c_A1_4 (below_alloc _ o); have f_R0_4 := (frz_gr (p := ⟨w.heap.size + 1, 0, none⟩) (cell_lt l0_R0) hgrow (fun g1 h1 => by simp only [Value.ownBlock, Option.some.injEq] at h1; show w.heap.size + 1 ≠ _; omega)).trans m0_R0; have af_R0_4 := fun o => frz_b (cell_lt c_R0_4) f_R0_4 (below_alloc _ o); have f_R1_4 := (frz_gr (p := ⟨w.heap.size + 1, 1, none⟩) (cell_lt l0_R1) hgrow (fun g1 h1 => by simp only [Value.ownBlock, Option.some.injEq] at h1; show w.heap.size + 1 ≠ _; omega)).trans m0_R1; have af_R1_4 := fun o => frz_b (cell_lt c_R1_4) f_R1_4 (below_alloc _ o); have HD := Lib.hid hd; have T4 := Lib.hid (below_gr (T3.out.trans (hP0.mono T3.out.size)) (by have h9 := T3.out.size; omega) hgrow (fun g1 h1 => by have h9 := T3.out.size; simp only [Value.ownBlock, Option.some.injEq] at h1; omega)); have z4 : w3.heap.size ≤ w4.heap.size := Nat.le_trans hS0 hgrow.size; have HL := Lib.hid (own_hi hd); clear hown hgrow hloc hd) | (refine step_append_rd (w := ((w3.alloc (.cells #[] 3)).alloc (.cells #[.int .i64 0, .slice none 0 0] 25)).drew) rfl _ _ 23 rfl (w3.heap.size) i0 Try.underlying23 hi hz0 hz1 hz2 (.slice (some ⟨w3.heap.size, 0, none⟩) 0 0) 0 [] rfl (own_below (World.ownsRow_made (base := w3.heap.size) (e := 3) (size := 1) w3 #[] 0 (Nat.le_refl _) (by unfold maxLen; omega) rfl) (below_trans (below_alloc _ _) (drew_below _))) _ _ _ ([]) rfl HT6.out rfl (by first | (unfold maxLen; simp; done) | (unfold maxLen; omega)) (by first | (simp; done) | omega) hS1 ?_; intro v4 w4 hown hgrow hloc; have hd : w4.ownsRow w3.heap.size 3 1 v4 ([]).length (ints ([])) := (by rw [Nat.zero_add, List.nil_append] at hown; exact hown); obtain ⟨a4, cap4, hv4⟩ := own_shape hd; subst hv4; have c_R0_4 := cell_gr l1_R0 hgrow (fun g1 h1 => by simp only [Value.ownBlock, Option.some.injEq] at h1; show w.heap.size + 1 ≠ _; omega); have ac_R0_4 := fun o => cell_b c_R0_4 (below_alloc _ o); have c_R1_4 := cell_gr l1_R1 hgrow (fun g1 h1 => by simp only [Value.ownBlock, Option.some.injEq] at h1; show w.heap.size + 1 ≠ _; omega); have ac_R1_4 := fun o => cell_b c_R1_4 (below_alloc _ o); have c_A0_4 := cell_gr l1_A0 hgrow (fun g1 h1 => by simp only [Value.ownBlock, Option.some.injEq] at h1; show w.heap.size ≠ _; omega); have ac_A0_4 := fun o => cell_b c_A0_4 (below_alloc _ o); have c_A1_4 := cell_gr l1_A1 hgrow (fun g1 h1 => by simp only [Value.ownBlock, Option.some.injEq] at h1; show w.heap.size ≠ _; omega); have ac_A1_4 := fun o => cell_b c_A1_4 (below_alloc _ o); have f_R0_4 := (frz_gr (p := ⟨w.heap.size + 1, 0, none⟩) (cell_lt l1_R0) hgrow (fun g1 h1 => by simp only [Value.ownBlock, Option.some.injEq] at h1; show w.heap.size + 1 ≠ _; omega)).trans m1_R0; have af_R0_4 := fun o => frz_b (cell_lt c_R0_4) f_R0_4 (below_alloc _ o); have f_R1_4 := (frz_gr (p := ⟨w.heap.size + 1, 1, none⟩) (cell_lt l1_R1) hgrow (fun g1 h1 => by simp only [Value.ownBlock, Option.some.injEq] at h1; show w.heap.size + 1 ≠ _; omega)).trans m1_R1; have af_R1_4 := fun o => frz_b (cell_lt c_R1_4) f_R1_4 (below_alloc _ o); have c_O0_4 := cell_gr l1_O0 hgrow (fun g1 h1 => by simp only [Value.ownBlock, Option.some.injEq] at h1; show w3.heap.size + 1 ≠ _; omega); have f_O0_4 := (frz_gr (p := ⟨w3.heap.size + 1, 0, none⟩) (cell_lt l1_O0) hgrow (fun g1 h1 => by simp only [Value.ownBlock, Option.some.injEq] at h1; show w3.heap.size + 1 ≠ _; omega)).trans m1_O0; have c_O1_4 := cell_gr l1_O1 hgrow (fun g1 h1 => by simp only [Value.ownBlock, Option.some.injEq] at h1; show w3.heap.size + 1 ≠ _; omega); have f_O1_4 := (frz_gr (p := ⟨w3.heap.size + 1, 1, none⟩) (cell_lt l1_O1) hgrow (fun g1 h1 => by simp only [Value.ownBlock, Option.some.injEq] at h1; show w3.heap.size + 1 ≠ _; omega)).trans m1_O1; have HD := Lib.hid hd; have T4 := Lib.hid (below_gr (T3.out.trans (hP1.mono T3.out.size)) (by have h9 := T3.out.size; omega) hgrow (fun g1 h1 => by have h9 := T3.out.size; simp only [Value.ownBlock, Option.some.injEq] at h1; omega)); have z4 : w3.heap.size ≤ w4.heap.size := Nat.le_trans hS1 hgrow.size; have z4b : w3.heap.size + 2 ≤ w4.heap.size := (by have h8 := hgrow.size; simp at h8; omega); have HL : Hid (∀ g1, (Value.slice a4 ([]).length cap4).ownBlock = some g1 → g1 = w3.heap.size ∨ w3.heap.size + 2 ≤ g1) := Lib.hid (fun g1 h1 => by rcases hloc with hloc | hloc <;> rw [hloc] at h1 <;> simp only [Value.ownBlock, Option.some.injEq] at h1 <;> first | (left; exact h1.symm) | (right; subst h1; exact Nat.le_of_eq (by show _ = ((w3.alloc _).alloc _).heap.size; rw [World.size_alloc, World.size_alloc]))); clear hown hgrow hloc hd) | (refine step_append_rd (w := ((w3.alloc (.cells #[.int .i64 0, .slice none 0 0] 25)).alloc (.cells #[] 3)).drew) rfl _ _ 23 rfl (w3.heap.size) i0 Try.underlying23 hi hz0 hz1 hz2 (.slice (some ⟨w3.heap.size + 1, 0, none⟩) 0 0) 0 [] rfl (own_below (ow_made1 w3 _ w3.heap.size (Nat.le_refl _)) (drew_below _)) _ _ _ ([]) rfl HT7.out rfl (by first | (unfold maxLen; simp; done) | (unfold maxLen; omega)) (by first | (simp; done) | omega) hS2 ?_; intro v4 w4 hown hgrow hloc; have hd : w4.ownsRow w3.heap.size 3 1 v4 ([]).length (ints ([])) := (by rw [Nat.zero_add, List.nil_append] at hown; exact hown); obtain ⟨a4, cap4, hv4⟩ := own_shape hd; subst hv4; have c_R0_4 := cell_gr l2_R0 hgrow (fun g1 h1 => by simp only [Value.ownBlock, Option.some.injEq] at h1; show w.heap.size + 1 ≠ _; omega); have ac_R0_4 := fun o => cell_b c_R0_4 (below_alloc _ o); have c_R1_4 := cell_gr l2_R1 hgrow (fun g1 h1 => by simp only [Value.ownBlock, Option.some.injEq] at h1; show w.heap.size + 1 ≠ _; omega); have ac_R1_4 := fun o => cell_b c_R1_4 (below_alloc _ o); have c_A0_4 := cell_gr l2_A0 hgrow (fun g1 h1 => by simp only [Value.ownBlock, Option.some.injEq] at h1; show w.heap.size ≠ _; omega); have ac_A0_4 := fun o => cell_b c_A0_4 (below_alloc _ o); have c_A1_4 := cell_gr l2_A1 hgrow (fun g1 h1 => by simp only [Value.ownBlock, Option.some.injEq] at h1; show w.heap.size ≠ _; omega); have ac_A1_4 := fun o => cell_b c_A1_4 (below_alloc _ o); have f_R0_4 := (frz_gr (p := ⟨w.heap.size + 1, 0, none⟩) (cell_lt l2_R0) hgrow (fun g1 h1 => by simp only [Value.ownBlock, Option.some.injEq] at h1; show w.heap.size + 1 ≠ _; omega)).trans m2_R0; have af_R0_4 := fun o => frz_b (cell_lt c_R0_4) f_R0_4 (below_alloc _ o); have f_R1_4 := (frz_gr (p := ⟨w.heap.size + 1, 1, none⟩) (cell_lt l2_R1) hgrow (fun g1 h1 => by simp only [Value.ownBlock, Option.some.injEq] at h1; show w.heap.size + 1 ≠ _; omega)).trans m2_R1; have af_R1_4 := fun o => frz_b (cell_lt c_R1_4) f_R1_4 (below_alloc _ o); have c_O0_4 := cell_gr l2_O0 hgrow (fun g1 h1 => by simp only [Value.ownBlock, Option.some.injEq] at h1; show w3.heap.size ≠ _; omega); have f_O0_4 := (frz_gr (p := ⟨w3.heap.size, 0, none⟩) (cell_lt l2_O0) hgrow (fun g1 h1 => by simp only [Value.ownBlock, Option.some.injEq] at h1; show w3.heap.size ≠ _; omega)).trans m2_O0; have c_O1_4 := cell_gr l2_O1 hgrow (fun g1 h1 => by simp only [Value.ownBlock, Option.some.injEq] at h1; show w3.heap.size ≠ _; omega); have f_O1_4 := (frz_gr (p := ⟨w3.heap.size, 1, none⟩) (cell_lt l2_O1) hgrow (fun g1 h1 => by simp only [Value.ownBlock, Option.some.injEq] at h1; show w3.heap.size ≠ _; omega)).trans m2_O1; have HD := Lib.hid hd; have T4 := Lib.hid (below_gr (T3.out.trans (hP2.mono T3.out.size)) (by have h9 := T3.out.size; omega) hgrow (fun g1 h1 => by have h9 := T3.out.size; simp only [Value.ownBlock, Option.some.injEq] at h1; omega)); have z4 : w3.heap.size ≤ w4.heap.size := Nat.le_trans hS2 hgrow.size; have z4b : w3.heap.size + 2 ≤ w4.heap.size := (by have h8 := hgrow.size; simp at h8; omega); have HL : Hid (∀ g1, (Value.slice a4 ([]).length cap4).ownBlock = some g1 → g1 = w3.heap.size + 1 ∨ w3.heap.size + 2 ≤ g1) := Lib.hid (fun g1 h1 => by rcases hloc with hloc | hloc <;> rw [hloc] at h1 <;> simp only [Value.ownBlock, Option.some.injEq] at h1 <;> first | (left; exact h1.symm) | (right; subst h1; exact Nat.le_of_eq (by show _ = ((w3.alloc _).alloc _).heap.size; rw [World.size_alloc, World.size_alloc]))); clear hown hgrow hloc hd))
          · have c_A0_5 : (w4.alloc (.cells #[.int .i64 0, .slice a4 0 cap4] 25)).cell? ⟨w.heap.size, 0, none⟩ = some (.int .i64 0) := ac_A0_4 _
            have c_R0_5 : (w4.alloc (.cells #[.int .i64 0, .slice a4 0 cap4] 25)).cell? ⟨w.heap.size + 1, 0, none⟩ = some (.int .i64 0) := ac_R0_4 _
            have c_R1_5 : (w4.alloc (.cells #[.int .i64 0, .slice a4 0 cap4] 25)).cell? ⟨w.heap.size + 1, 1, none⟩ = some (.slice none 0 0) := ac_R1_4 _
            have c_O0_5 : (w4.alloc (.cells #[.int .i64 0, .slice a4 0 cap4] 25)).cell? ⟨w4.heap.size, 0, none⟩ = some (.int .i64 0) := by simp
            have c_O1_5 : (w4.alloc (.cells #[.int .i64 0, .slice a4 0 cap4] 25)).cell? ⟨w4.heap.size, 1, none⟩ = some (.slice a4 0 cap4) := by simp
            have f_R0_5 : (w4.alloc (.cells #[.int .i64 0, .slice a4 0 cap4] 25)).frozen? ⟨w.heap.size + 1, 0, none⟩ = false := af_R0_4 _
            have f_R1_5 : (w4.alloc (.cells #[.int .i64 0, .slice a4 0 cap4] 25)).frozen? ⟨w.heap.size + 1, 1, none⟩ = false := af_R1_4 _
            have f_O1_5 : (w4.alloc (.cells #[.int .i64 0, .slice a4 0 cap4] 25)).frozen? ⟨w4.heap.size, 1, none⟩ = false := by simp
            have T5 : Hid (Below w.heap.size w (w4.alloc (.cells #[.int .i64 0, .slice a4 0 cap4] 25))) := Lib.hid (T4.out.alloc T4.out.size _)
            have gq : Hid (∀ g, (Value.slice a4 ([]).length cap4).ownBlock = some g → g ≠ w4.heap.size) := Lib.hid (fun g h => by have h1 := HL.out g h; omega)
            have od : (w4.alloc (.cells #[.int .i64 0, .slice a4 0 cap4] 25)).ownsRow w3.heap.size 3 1 (.slice a4 ([]).length cap4) ([]).length (ints ([])) := own_below HD.out (below_alloc _ _)
            have z5 : w4.heap.size + 1 ≤ (w4.alloc (.cells #[.int .i64 0, .slice a4 0 cap4] 25)).heap.size := by simp
            have hi_d := Lib.hid (own_hi od)
            have lo_d := Lib.hid (own_lo od)
            have o_d_5 := Lib.hid od
            clear od
            have j1 : ¬ w4.heap.size = w.heap.size + 1 := by omega
            have j2 : ¬ w.heap.size + 1 = w4.heap.size := by omega
            generalize w4.alloc (.cells #[.int .i64 0, .slice a4 0 cap4] 25) = w5 at *
            go_wp2_with fail
            refine bodyPost_ret (v := .tuple #[.agg #[.int .i64 0, .slice a4 0 cap4], .bool true, .bool true]) (by simp [results, Try.results19, go_sem, c_R0_5, c_R1_5]) rfl ⟨_, _, rfl, ?_, ((T5.out).setCell (by simp) _).setCell (by simp) _⟩
            refine own_base (b := w3.heap.size) ?_ (by omega)
            repeat (first | exact o_d_5.out | refine ownsRow_setCell_below ?_ (by show _ + 1 < _; omega) _)
          · have c_A0_5 : ((w4.setCell ⟨w3.heap.size + 1, 0, none⟩ (.int .i64 0)).setCell ⟨w3.heap.size + 1, 1, none⟩ (.slice a4 0 cap4)).cell? ⟨w.heap.size, 0, none⟩ = some (.int .i64 0) := (World.cell?_setCell_far _ _ _ _ (by simp; omega)).trans ((World.cell?_setCell_far _ _ _ _ (by simp; omega)).trans c_A0_4)
            have c_R0_5 : ((w4.setCell ⟨w3.heap.size + 1, 0, none⟩ (.int .i64 0)).setCell ⟨w3.heap.size + 1, 1, none⟩ (.slice a4 0 cap4)).cell? ⟨w.heap.size + 1, 0, none⟩ = some (.int .i64 0) := (World.cell?_setCell_far _ _ _ _ (by simp; omega)).trans ((World.cell?_setCell_far _ _ _ _ (by simp; omega)).trans c_R0_4)
            have c_R1_5 : ((w4.setCell ⟨w3.heap.size + 1, 0, none⟩ (.int .i64 0)).setCell ⟨w3.heap.size + 1, 1, none⟩ (.slice a4 0 cap4)).cell? ⟨w.heap.size + 1, 1, none⟩ = some (.slice none 0 0) := (World.cell?_setCell_far _ _ _ _ (by simp; omega)).trans ((World.cell?_setCell_far _ _ _ _ (by simp; omega)).trans c_R1_4)
            have c_O0_5 : ((w4.setCell ⟨w3.heap.size + 1, 0, none⟩ (.int .i64 0)).setCell ⟨w3.heap.size + 1, 1, none⟩ (.slice a4 0 cap4)).cell? ⟨w3.heap.size + 1, 0, none⟩ = some (.int .i64 0) := (World.cell?_setCell_other _ _ _ _ (by simp)).trans (World.cell?_setCell_same _ _ _ c_O0_4)
            have c_O1_5 : ((w4.setCell ⟨w3.heap.size + 1, 0, none⟩ (.int .i64 0)).setCell ⟨w3.heap.size + 1, 1, none⟩ (.slice a4 0 cap4)).cell? ⟨w3.heap.size + 1, 1, none⟩ = some (.slice a4 0 cap4) := World.cell?_setCell_same _ _ _ ((World.cell?_setCell_other _ _ _ _ (by simp)).trans c_O1_4)
            have f_R0_5 : ((w4.setCell ⟨w3.heap.size + 1, 0, none⟩ (.int .i64 0)).setCell ⟨w3.heap.size + 1, 1, none⟩ (.slice a4 0 cap4)).frozen? ⟨w.heap.size + 1, 0, none⟩ = false := (by simp [f_R0_4])
            have f_R1_5 : ((w4.setCell ⟨w3.heap.size + 1, 0, none⟩ (.int .i64 0)).setCell ⟨w3.heap.size + 1, 1, none⟩ (.slice a4 0 cap4)).frozen? ⟨w.heap.size + 1, 1, none⟩ = false := (by simp [f_R1_4])
            have f_O1_5 : ((w4.setCell ⟨w3.heap.size + 1, 0, none⟩ (.int .i64 0)).setCell ⟨w3.heap.size + 1, 1, none⟩ (.slice a4 0 cap4)).frozen? ⟨w3.heap.size + 1, 1, none⟩ = false := (by simp [f_O1_4])
            have T5 : Hid (Below w.heap.size w ((w4.setCell ⟨w3.heap.size + 1, 0, none⟩ (.int .i64 0)).setCell ⟨w3.heap.size + 1, 1, none⟩ (.slice a4 0 cap4))) := Lib.hid ((T4.out.setCell (by have := T3.out.size; simp; omega) _).setCell (by have := T3.out.size; simp; omega) _)
            have gq : Hid (∀ g, (Value.slice a4 ([]).length cap4).ownBlock = some g → g ≠ w3.heap.size + 1) := Lib.hid (fun g h => by have h1 := HL.out g h; omega)
            have od : ((w4.setCell ⟨w3.heap.size + 1, 0, none⟩ (.int .i64 0)).setCell ⟨w3.heap.size + 1, 1, none⟩ (.slice a4 0 cap4)).ownsRow w3.heap.size 3 1 (.slice a4 ([]).length cap4) ([]).length (ints ([])) := ownsRow_setCell_other (ownsRow_setCell_other HD.out (fun h => gq.out _ h rfl) _) (fun h => gq.out _ h rfl) _
            have z5 : w4.heap.size  ≤ ((w4.setCell ⟨w3.heap.size + 1, 0, none⟩ (.int .i64 0)).setCell ⟨w3.heap.size + 1, 1, none⟩ (.slice a4 0 cap4)).heap.size := by simp
            have hi_d := Lib.hid (own_hi od)
            have lo_d := Lib.hid (own_lo od)
            have o_d_5 := Lib.hid od
            clear od
            have j1 : ¬ w3.heap.size + 1 = w.heap.size + 1 := by omega
            have j2 : ¬ w.heap.size + 1 = w3.heap.size + 1 := by omega
            generalize (w4.setCell ⟨w3.heap.size + 1, 0, none⟩ (.int .i64 0)).setCell ⟨w3.heap.size + 1, 1, none⟩ (.slice a4 0 cap4) = w5 at *
            go_wp2_with fail
            refine bodyPost_ret (v := .tuple #[.agg #[.int .i64 0, .slice a4 0 cap4], .bool true, .bool true]) (by simp [results, Try.results19, go_sem, c_R0_5, c_R1_5]) rfl ⟨_, _, rfl, ?_, ((T5.out).setCell (by simp) _).setCell (by simp) _⟩
            refine own_base (b := w3.heap.size) ?_ (by omega)
            repeat (first | exact o_d_5.out | refine ownsRow_setCell_below ?_ (by show _ + 1 < _; omega) _)
          · have c_A0_5 : ((w4.setCell ⟨w3.heap.size, 0, none⟩ (.int .i64 0)).setCell ⟨w3.heap.size, 1, none⟩ (.slice a4 0 cap4)).cell? ⟨w.heap.size, 0, none⟩ = some (.int .i64 0) := (World.cell?_setCell_far _ _ _ _ (by simp; omega)).trans ((World.cell?_setCell_far _ _ _ _ (by simp; omega)).trans c_A0_4)
            have c_R0_5 : ((w4.setCell ⟨w3.heap.size, 0, none⟩ (.int .i64 0)).setCell ⟨w3.heap.size, 1, none⟩ (.slice a4 0 cap4)).cell? ⟨w.heap.size + 1, 0, none⟩ = some (.int .i64 0) := (World.cell?_setCell_far _ _ _ _ (by simp; omega)).trans ((World.cell?_setCell_far _ _ _ _ (by simp; omega)).trans c_R0_4)
            have c_R1_5 : ((w4.setCell ⟨w3.heap.size, 0, none⟩ (.int .i64 0)).setCell ⟨w3.heap.size, 1, none⟩ (.slice a4 0 cap4)).cell? ⟨w.heap.size + 1, 1, none⟩ = some (.slice none 0 0) := (World.cell?_setCell_far _ _ _ _ (by simp; omega)).trans ((World.cell?_setCell_far _ _ _ _ (by simp; omega)).trans c_R1_4)
            have c_O0_5 : ((w4.setCell ⟨w3.heap.size, 0, none⟩ (.int .i64 0)).setCell ⟨w3.heap.size, 1, none⟩ (.slice a4 0 cap4)).cell? ⟨w3.heap.size, 0, none⟩ = some (.int .i64 0) := (World.cell?_setCell_other _ _ _ _ (by simp)).trans (World.cell?_setCell_same _ _ _ c_O0_4)
            have c_O1_5 : ((w4.setCell ⟨w3.heap.size, 0, none⟩ (.int .i64 0)).setCell ⟨w3.heap.size, 1, none⟩ (.slice a4 0 cap4)).cell? ⟨w3.heap.size, 1, none⟩ = some (.slice a4 0 cap4) := World.cell?_setCell_same _ _ _ ((World.cell?_setCell_other _ _ _ _ (by simp)).trans c_O1_4)
            have f_R0_5 : ((w4.setCell ⟨w3.heap.size, 0, none⟩ (.int .i64 0)).setCell ⟨w3.heap.size, 1, none⟩ (.slice a4 0 cap4)).frozen? ⟨w.heap.size + 1, 0, none⟩ = false := (by simp [f_R0_4])
            have f_R1_5 : ((w4.setCell ⟨w3.heap.size, 0, none⟩ (.int .i64 0)).setCell ⟨w3.heap.size, 1, none⟩ (.slice a4 0 cap4)).frozen? ⟨w.heap.size + 1, 1, none⟩ = false := (by simp [f_R1_4])
            have f_O1_5 : ((w4.setCell ⟨w3.heap.size, 0, none⟩ (.int .i64 0)).setCell ⟨w3.heap.size, 1, none⟩ (.slice a4 0 cap4)).frozen? ⟨w3.heap.size, 1, none⟩ = false := (by simp [f_O1_4])
            have T5 : Hid (Below w.heap.size w ((w4.setCell ⟨w3.heap.size, 0, none⟩ (.int .i64 0)).setCell ⟨w3.heap.size, 1, none⟩ (.slice a4 0 cap4))) := Lib.hid ((T4.out.setCell (by have := T3.out.size; simp; omega) _).setCell (by have := T3.out.size; simp; omega) _)
            have gq : Hid (∀ g, (Value.slice a4 ([]).length cap4).ownBlock = some g → g ≠ w3.heap.size) := Lib.hid (fun g h => by have h1 := HL.out g h; omega)
            have od : ((w4.setCell ⟨w3.heap.size, 0, none⟩ (.int .i64 0)).setCell ⟨w3.heap.size, 1, none⟩ (.slice a4 0 cap4)).ownsRow w3.heap.size 3 1 (.slice a4 ([]).length cap4) ([]).length (ints ([])) := ownsRow_setCell_other (ownsRow_setCell_other HD.out (fun h => gq.out _ h rfl) _) (fun h => gq.out _ h rfl) _
            have z5 : w4.heap.size  ≤ ((w4.setCell ⟨w3.heap.size, 0, none⟩ (.int .i64 0)).setCell ⟨w3.heap.size, 1, none⟩ (.slice a4 0 cap4)).heap.size := by simp
            have hi_d := Lib.hid (own_hi od)
            have lo_d := Lib.hid (own_lo od)
            have o_d_5 := Lib.hid od
            clear od
            have j1 : ¬ w3.heap.size = w.heap.size + 1 := by omega
            have j2 : ¬ w.heap.size + 1 = w3.heap.size := by omega
            generalize (w4.setCell ⟨w3.heap.size, 0, none⟩ (.int .i64 0)).setCell ⟨w3.heap.size, 1, none⟩ (.slice a4 0 cap4) = w5 at *
            go_wp2_with fail
            refine bodyPost_ret (v := .tuple #[.agg #[.int .i64 0, .slice a4 0 cap4], .bool true, .bool true]) (by simp [results, Try.results19, go_sem, c_R0_5, c_R1_5]) rfl ⟨_, _, rfl, ?_, ((T5.out).setCell (by simp) _).setCell (by simp) _⟩
            refine own_base (b := w3.heap.size) ?_ (by omega)
            repeat (first | exact o_d_5.out | refine ownsRow_setCell_below ?_ (by show _ + 1 < _; omega) _)
        · have hz' : ¬ c = 0 := by omega
          clear hz
          have e0 : wg c xs t = (c, xs ++ [t], false, true) := by simp [wg, hv, ht, hh', hz']
          simp only [e0]
          clear e0
          have hat : atF xs t < 0 := by have := hasB_at xs t; rw [hh'] at this; simpa using this
          have hl6 := (gval_in hv).2.2.1
          go_enter Try.func19, Try.ntmps19
          have T0 := Lib.hid (Below.refl w.heap.size w)
          go_wp2_with fail
          refine (S_GroupValid _ c _ xs (rd_alloc (rd_alloc (rd_below HR.out T0.out) _) _) (by first | omega | simp)).mono ?_
          rintro e w1 ⟨rfl, hb⟩
          have D1 : Below w.heap.size w w1 := below_trans (below_alloc _ _) (below_trans (below_alloc _ _) (hb))
          have T1 := Lib.hid (below_trans T0.out D1)
          have z1 : w.heap.size + 2 ≤ w1.heap.size := (by have := hb.size; (try simp at this); omega)
          have c_A0_1 := cell_b (p := ⟨w.heap.size, 0, none⟩) (v := .int .i64 c) (by simp) hb
          have c_A1_1 := cell_b (p := ⟨w.heap.size, 1, none⟩) (v := .slice a xs.length cap) (by simp) hb
          have c_R0_1 := cell_b (p := ⟨w.heap.size + 1, 0, none⟩) (v := .int .i64 0) (by simp) hb
          have f_R0_1 : w1.frozen? ⟨w.heap.size + 1, 0, none⟩ = false := (hb.frozen (p := ⟨w.heap.size + 1, 0, none⟩) (by simp; try omega)).trans (by simp)
          have c_R1_1 := cell_b (p := ⟨w.heap.size + 1, 1, none⟩) (v := .slice none 0 0) (by simp) hb
          have f_R1_1 : w1.frozen? ⟨w.heap.size + 1, 1, none⟩ = false := (hb.frozen (p := ⟨w.heap.size + 1, 1, none⟩) (by simp; try omega)).trans (by simp)
          have ac_A0_1 := fun o => cell_b c_A0_1 (below_alloc _ o)
          have bc_A0_1 := fun o o1 => cell_b (ac_A0_1 o) (below_alloc _ o1)
          have ac_A1_1 := fun o => cell_b c_A1_1 (below_alloc _ o)
          have bc_A1_1 := fun o o1 => cell_b (ac_A1_1 o) (below_alloc _ o1)
          have ac_R0_1 := fun o => cell_b c_R0_1 (below_alloc _ o)
          have bc_R0_1 := fun o o1 => cell_b (ac_R0_1 o) (below_alloc _ o1)
          have ac_R1_1 := fun o => cell_b c_R1_1 (below_alloc _ o)
          have bc_R1_1 := fun o o1 => cell_b (ac_R1_1 o) (below_alloc _ o1)
          have af_R0_1 := fun o => frz_b (cell_lt c_R0_1) f_R0_1 (below_alloc _ o)
          have bf_R0_1 := fun o o1 => frz_b (cell_lt (ac_R0_1 o)) (af_R0_1 o) (below_alloc _ o1)
          have af_R1_1 := fun o => frz_b (cell_lt c_R1_1) f_R1_1 (below_alloc _ o)
          have bf_R1_1 := fun o o1 => frz_b (cell_lt (ac_R1_1 o)) (af_R1_1 o) (below_alloc _ o1)
          clear hb D1 T0
          go_wp2_with fail
          refine (same_b (S_l1Thread _ t)).mono ?_
          rintro e w2 ⟨rfl, hb⟩
          have D2 : Below w1.heap.size w1 w2 := hb
          have c_A0_2 := cell_b c_A0_1 D2
          have c_A1_2 := cell_b c_A1_1 D2
          have c_R0_2 := cell_b c_R0_1 D2
          have c_R1_2 := cell_b c_R1_1 D2
          have f_R0_2 := (D2.frozen (p := ⟨w.heap.size + 1, 0, none⟩) (World.block_lt_of_cell? _ _ c_R0_1)).trans f_R0_1
          have f_R1_2 := (D2.frozen (p := ⟨w.heap.size + 1, 1, none⟩) (World.block_lt_of_cell? _ _ c_R1_1)).trans f_R1_1
          have T2 := Lib.hid (below_trans T1.out D2)
          have z2 : w1.heap.size ≤ w2.heap.size := (by have := hb.size; (try simp at this); omega)
          have ac_A0_2 := fun o => cell_b c_A0_2 (below_alloc _ o)
          have bc_A0_2 := fun o o1 => cell_b (ac_A0_2 o) (below_alloc _ o1)
          have ac_A1_2 := fun o => cell_b c_A1_2 (below_alloc _ o)
          have bc_A1_2 := fun o o1 => cell_b (ac_A1_2 o) (below_alloc _ o1)
          have ac_R0_2 := fun o => cell_b c_R0_2 (below_alloc _ o)
          have bc_R0_2 := fun o o1 => cell_b (ac_R0_2 o) (below_alloc _ o1)
          have ac_R1_2 := fun o => cell_b c_R1_2 (below_alloc _ o)
          have bc_R1_2 := fun o o1 => cell_b (ac_R1_2 o) (below_alloc _ o1)
          have af_R0_2 := fun o => frz_b (cell_lt c_R0_2) f_R0_2 (below_alloc _ o)
          have bf_R0_2 := fun o o1 => frz_b (cell_lt (ac_R0_2 o)) (af_R0_2 o) (below_alloc _ o1)
          have af_R1_2 := fun o => frz_b (cell_lt c_R1_2) f_R1_2 (below_alloc _ o)
          have bf_R1_2 := fun o o1 => frz_b (cell_lt (ac_R1_2 o)) (af_R1_2 o) (below_alloc _ o1)
          clear ac_A0_1 bc_A0_1 ac_A1_1 bc_A1_1 ac_R0_1 bc_R0_1 ac_R1_1 bc_R1_1 af_R0_1 bf_R0_1 af_R1_1 bf_R1_1 c_A0_1 c_A1_1 c_R0_1 c_R1_1 f_R0_1 f_R1_1 hb D2 T1
          go_wp2_with fail
          refine (same_b (S_l2At _ _ xs t (rd_below HR.out T2.out) (by first | omega | simp))).mono ?_
          rintro e w3 ⟨rfl, hb⟩
          have D3 : Below w2.heap.size w2 w3 := hb
          have c_A0_3 := cell_b c_A0_2 D3
          have c_A1_3 := cell_b c_A1_2 D3
          have c_R0_3 := cell_b c_R0_2 D3
          have c_R1_3 := cell_b c_R1_2 D3
          have f_R0_3 := (D3.frozen (p := ⟨w.heap.size + 1, 0, none⟩) (World.block_lt_of_cell? _ _ c_R0_2)).trans f_R0_2
          have f_R1_3 := (D3.frozen (p := ⟨w.heap.size + 1, 1, none⟩) (World.block_lt_of_cell? _ _ c_R1_2)).trans f_R1_2
          have T3 := Lib.hid (below_trans T2.out D3)
          have z3 : w2.heap.size ≤ w3.heap.size := (by have := hb.size; (try simp at this); omega)
          have ac_A0_3 := fun o => cell_b c_A0_3 (below_alloc _ o)
          have bc_A0_3 := fun o o1 => cell_b (ac_A0_3 o) (below_alloc _ o1)
          have ac_A1_3 := fun o => cell_b c_A1_3 (below_alloc _ o)
          have bc_A1_3 := fun o o1 => cell_b (ac_A1_3 o) (below_alloc _ o1)
          have ac_R0_3 := fun o => cell_b c_R0_3 (below_alloc _ o)
          have bc_R0_3 := fun o o1 => cell_b (ac_R0_3 o) (below_alloc _ o1)
          have ac_R1_3 := fun o => cell_b c_R1_3 (below_alloc _ o)
          have bc_R1_3 := fun o o1 => cell_b (ac_R1_3 o) (below_alloc _ o1)
          have af_R0_3 := fun o => frz_b (cell_lt c_R0_3) f_R0_3 (below_alloc _ o)
          have bf_R0_3 := fun o o1 => frz_b (cell_lt (ac_R0_3 o)) (af_R0_3 o) (below_alloc _ o1)
          have af_R1_3 := fun o => frz_b (cell_lt c_R1_3) f_R1_3 (below_alloc _ o)
          have bf_R1_3 := fun o o1 => frz_b (cell_lt (ac_R1_3 o)) (af_R1_3 o) (below_alloc _ o1)
          clear ac_A0_2 bc_A0_2 ac_A1_2 bc_A1_2 ac_R0_2 bc_R0_2 ac_R1_2 bc_R1_2 af_R0_2 bf_R0_2 af_R1_2 bf_R1_2 c_A0_2 c_A1_2 c_R0_2 c_R1_2 f_R0_2 f_R1_2 hb D3 T2
          have HT1 := Lib.hid (rd_below HR.out T3.out)
          have hP0 : Below w3.heap.size w3 ((w3.alloc (.cells #[] 3)).drew) := (below_trans (below_alloc _ _) (drew_below _))
          have hS0 := hP0.size
          have HT5 := Lib.hid (rd_below HT1.out hP0)
          have l0_R0 := cell_b c_R0_3 hP0
          have l0_R1 := cell_b c_R1_3 hP0
          have l0_A0 := cell_b c_A0_3 hP0
          have l0_A1 := cell_b c_A1_3 hP0
          have m0_R0 := frz_b (cell_lt c_R0_3) f_R0_3 hP0
          have m0_R1 := frz_b (cell_lt c_R1_3) f_R1_3 hP0
          have hP1 : Below w3.heap.size w3 (((w3.alloc (.cells #[] 3)).alloc (.cells #[.int .i64 0, .slice none 0 0] 25)).drew) := (below_trans (below_alloc _ _) (below_trans (below_alloc _ _) (drew_below _)))
          have hS1 := hP1.size
          have HT6 := Lib.hid (rd_below HT1.out hP1)
          have l1_R0 := cell_b c_R0_3 hP1
          have l1_R1 := cell_b c_R1_3 hP1
          have l1_A0 := cell_b c_A0_3 hP1
          have l1_A1 := cell_b c_A1_3 hP1
          have m1_R0 := frz_b (cell_lt c_R0_3) f_R0_3 hP1
          have m1_R1 := frz_b (cell_lt c_R1_3) f_R1_3 hP1
          have hP2 : Below w3.heap.size w3 (((w3.alloc (.cells #[.int .i64 0, .slice none 0 0] 25)).alloc (.cells #[] 3)).drew) := (below_trans (below_alloc _ _) (below_trans (below_alloc _ _) (drew_below _)))
          have hS2 := hP2.size
          have HT7 := Lib.hid (rd_below HT1.out hP2)
          have l2_R0 := cell_b c_R0_3 hP2
          have l2_R1 := cell_b c_R1_3 hP2
          have l2_A0 := cell_b c_A0_3 hP2
          have l2_A1 := cell_b c_A1_3 hP2
          have m2_R0 := frz_b (cell_lt c_R0_3) f_R0_3 hP2
          have m2_R1 := frz_b (cell_lt c_R1_3) f_R1_3 hP2
          have l1_O0 : (((w3.alloc (.cells #[] 3)).alloc (.cells #[.int .i64 0, .slice none 0 0] 25)).drew).cell? ⟨w3.heap.size + 1, 0, none⟩ = some (.int .i64 0) := cell_b (show (((w3.alloc (.cells #[] 3)).alloc (.cells #[.int .i64 0, .slice none 0 0] 25))).cell? ⟨w3.heap.size + 1, 0, none⟩ = some (.int .i64 0) by simp) (drew_below _)
          have m1_O0 : (((w3.alloc (.cells #[] 3)).alloc (.cells #[.int .i64 0, .slice none 0 0] 25)).drew).frozen? ⟨w3.heap.size + 1, 0, none⟩ = false := frz_b (w := ((w3.alloc (.cells #[] 3)).alloc (.cells #[.int .i64 0, .slice none 0 0] 25))) (show _ < _ by simp; try omega) (show (((w3.alloc (.cells #[] 3)).alloc (.cells #[.int .i64 0, .slice none 0 0] 25))).frozen? ⟨w3.heap.size + 1, 0, none⟩ = false by simp) (drew_below _)
          have l1_O1 : (((w3.alloc (.cells #[] 3)).alloc (.cells #[.int .i64 0, .slice none 0 0] 25)).drew).cell? ⟨w3.heap.size + 1, 1, none⟩ = some (.slice none 0 0) := cell_b (show (((w3.alloc (.cells #[] 3)).alloc (.cells #[.int .i64 0, .slice none 0 0] 25))).cell? ⟨w3.heap.size + 1, 1, none⟩ = some (.slice none 0 0) by simp) (drew_below _)
          have m1_O1 : (((w3.alloc (.cells #[] 3)).alloc (.cells #[.int .i64 0, .slice none 0 0] 25)).drew).frozen? ⟨w3.heap.size + 1, 1, none⟩ = false := frz_b (w := ((w3.alloc (.cells #[] 3)).alloc (.cells #[.int .i64 0, .slice none 0 0] 25))) (show _ < _ by simp; try omega) (show (((w3.alloc (.cells #[] 3)).alloc (.cells #[.int .i64 0, .slice none 0 0] 25))).frozen? ⟨w3.heap.size + 1, 1, none⟩ = false by simp) (drew_below _)
          have l2_O0 : (((w3.alloc (.cells #[.int .i64 0, .slice none 0 0] 25)).alloc (.cells #[] 3)).drew).cell? ⟨w3.heap.size, 0, none⟩ = some (.int .i64 0) := cell_b (show (((w3.alloc (.cells #[.int .i64 0, .slice none 0 0] 25)).alloc (.cells #[] 3))).cell? ⟨w3.heap.size, 0, none⟩ = some (.int .i64 0) by simp) (drew_below _)
          have m2_O0 : (((w3.alloc (.cells #[.int .i64 0, .slice none 0 0] 25)).alloc (.cells #[] 3)).drew).frozen? ⟨w3.heap.size, 0, none⟩ = false := frz_b (w := ((w3.alloc (.cells #[.int .i64 0, .slice none 0 0] 25)).alloc (.cells #[] 3))) (show _ < _ by simp; try omega) (show (((w3.alloc (.cells #[.int .i64 0, .slice none 0 0] 25)).alloc (.cells #[] 3))).frozen? ⟨w3.heap.size, 0, none⟩ = false by simp) (drew_below _)
          have l2_O1 : (((w3.alloc (.cells #[.int .i64 0, .slice none 0 0] 25)).alloc (.cells #[] 3)).drew).cell? ⟨w3.heap.size, 1, none⟩ = some (.slice none 0 0) := cell_b (show (((w3.alloc (.cells #[.int .i64 0, .slice none 0 0] 25)).alloc (.cells #[] 3))).cell? ⟨w3.heap.size, 1, none⟩ = some (.slice none 0 0) by simp) (drew_below _)
          have m2_O1 : (((w3.alloc (.cells #[.int .i64 0, .slice none 0 0] 25)).alloc (.cells #[] 3)).drew).frozen? ⟨w3.heap.size, 1, none⟩ = false := frz_b (w := ((w3.alloc (.cells #[.int .i64 0, .slice none 0 0] 25)).alloc (.cells #[] 3))) (show _ < _ by simp; try omega) (show (((w3.alloc (.cells #[.int .i64 0, .slice none 0 0] 25)).alloc (.cells #[] 3))).frozen? ⟨w3.heap.size, 1, none⟩ = false by simp) (drew_below _)
          have n_A0 := cell_b c_A0_3 (drew_below _)
          have n_A1 := cell_b c_A1_3 (drew_below _)
          go_wp2_with fail
          go_region_held3 (fun w' => w'.cell? ⟨w.heap.size, 0, none⟩ = some (.int .i64 c) ∧ w'.cell? ⟨w.heap.size, 1, none⟩ = some (.slice a xs.length cap)) (first | with_reducible exact ⟨c_A0_3, c_A1_3⟩ | with_reducible exact ⟨ac_A0_3 _, ac_A1_3 _⟩ | with_reducible exact ⟨bc_A0_3 _ _, bc_A1_3 _ _⟩ | with_reducible exact ⟨n_A0, n_A1⟩ | with_reducible exact ⟨l0_A0, l0_A1⟩ | with_reducible exact ⟨l1_A0, l1_A1⟩ | with_reducible exact ⟨l2_A0, l2_A1⟩ | with_reducible exact ⟨c_A0_4, c_A1_4⟩ | with_reducible exact ⟨ac_A0_4 _, ac_A1_4 _⟩ | exact ⟨(World.cell?_setCell_far _ _ _ _ (by simp; omega)).trans ((World.cell?_setCell_far _ _ _ _ (by simp; omega)).trans c_A0_4), (World.cell?_setCell_far _ _ _ _ (by simp; omega)).trans ((World.cell?_setCell_far _ _ _ _ (by simp; omega)).trans c_A1_4)⟩ | go_keep)
            (first | (refine step_append_rd (w := (w3.alloc (.cells #[] 3)).drew) rfl _ _ 23 rfl (w3.heap.size) i0 Try.underlying23 hi hz0 hz1 hz2 (.slice (some ⟨w3.heap.size, 0, none⟩) 0 0) 0 [] rfl (own_below (World.ownsRow_made (base := w3.heap.size) (e := 3) (size := 1) w3 #[] 0 (Nat.le_refl _) (by unfold maxLen; omega) rfl) (drew_below _)) _ _ _ (xs) rfl HT5.out rfl (by first | (unfold maxLen; simp; done) | (unfold maxLen; omega)) (by first | (simp; done) | omega) hS0 ?_; intro v4 w4 hown hgrow hloc; have hd : w4.ownsRow w3.heap.size 3 1 v4 (xs).length (ints (xs)) := (by rw [Nat.zero_add, List.nil_append] at hown; exact hown); obtain ⟨a4, cap4, hv4⟩ := own_shape hd; subst hv4; have c_R0_4 := cell_gr l0_R0 hgrow (fun g1 h1 => by simp only [Value.ownBlock, Option.some.injEq] at h1; show w.heap.size + 1 ≠ _; omega); have ac_R0_4 := fun o => cell_b c_R0_4 (below_alloc _ o); have c_R1_4 := cell_gr l0_R1 hgrow (fun g1 h1 => by simp only [Value.ownBlock, Option.some.injEq] at h1; show w.heap.size + 1 ≠ _; omega); have ac_R1_4 := fun o => cell_b c_R1_4 (below_alloc _ o); have c_A0_4 := cell_gr l0_A0 hgrow (fun g1 h1 => by simp only [Value.ownBlock, Option.some.injEq] at h1; show w.heap.size ≠ _; omega); have ac_A0_4 := fun o => cell_b c_A0_4 (below_alloc _ o); have c_A1_4 := cell_gr l0_A1 hgrow (fun g1 h1 => by simp only [Value.ownBlock, Option.some.injEq] at h1; show w.heap.size ≠ _; omega); have ac_A1_4 := fun o => cell_b c_A1_4 (below_alloc _ o); have f_R0_4 := (frz_gr (p := ⟨w.heap.size + 1, 0, none⟩) (cell_lt l0_R0) hgrow (fun g1 h1 => by simp only [Value.ownBlock, Option.some.injEq] at h1; show w.heap.size + 1 ≠ _; omega)).trans m0_R0; have af_R0_4 := fun o => frz_b (cell_lt c_R0_4) f_R0_4 (below_alloc _ o); have f_R1_4 := (frz_gr (p := ⟨w.heap.size + 1, 1, none⟩) (cell_lt l0_R1) hgrow (fun g1 h1 => by simp only [Value.ownBlock, Option.some.injEq] at h1; show w.heap.size + 1 ≠ _; omega)).trans m0_R1; have af_R1_4 := fun o => frz_b (cell_lt c_R1_4) f_R1_4 (below_alloc _ o); have HD := Lib.hid hd; have T4 := Lib.hid (below_gr (T3.out.trans (hP0.mono T3.out.size)) (by have h9 := T3.out.size; omega) hgrow (fun g1 h1 => by have h9 := T3.out.size; simp only [Value.ownBlock, Option.some.injEq] at h1; omega)); have z4 : w3.heap.size ≤ w4.heap.size := Nat.le_trans hS0 hgrow.size; have HL := Lib.hid (own_hi hd); clear hown hgrow hloc hd) | (refine step_append_rd (w := ((w3.alloc (.cells #[] 3)).alloc (.cells #[.int .i64 0, .slice none 0 0] 25)).drew) rfl _ _ 23 rfl (w3.heap.size) i0 Try.underlying23 hi hz0 hz1 hz2 (.slice (some ⟨w3.heap.size, 0, none⟩) 0 0) 0 [] rfl (own_below (World.ownsRow_made (base := w3.heap.size) (e := 3) (size := 1) w3 #[] 0 (Nat.le_refl _) (by unfold maxLen; omega) rfl) (below_trans (below_alloc _ _) (drew_below _))) _ _ _ (xs) rfl HT6.out rfl (by first | (unfold maxLen; simp; done) | (unfold maxLen; omega)) (by first | (simp; done) | omega) hS1 ?_; intro v4 w4 hown hgrow hloc; have hd : w4.ownsRow w3.heap.size 3 1 v4 (xs).length (ints (xs)) := (by rw [Nat.zero_add, List.nil_append] at hown; exact hown); obtain ⟨a4, cap4, hv4⟩ := own_shape hd; subst hv4; have c_R0_4 := cell_gr l1_R0 hgrow (fun g1 h1 => by simp only [Value.ownBlock, Option.some.injEq] at h1; show w.heap.size + 1 ≠ _; omega); have ac_R0_4 := fun o => cell_b c_R0_4 (below_alloc _ o); have c_R1_4 := cell_gr l1_R1 hgrow (fun g1 h1 => by simp only [Value.ownBlock, Option.some.injEq] at h1; show w.heap.size + 1 ≠ _; omega); have ac_R1_4 := fun o => cell_b c_R1_4 (below_alloc _ o); have c_A0_4 := cell_gr l1_A0 hgrow (fun g1 h1 => by simp only [Value.ownBlock, Option.some.injEq] at h1; show w.heap.size ≠ _; omega); have ac_A0_4 := fun o => cell_b c_A0_4 (below_alloc _ o); have c_A1_4 := cell_gr l1_A1 hgrow (fun g1 h1 => by simp only [Value.ownBlock, Option.some.injEq] at h1; show w.heap.size ≠ _; omega); have ac_A1_4 := fun o => cell_b c_A1_4 (below_alloc _ o); have f_R0_4 := (frz_gr (p := ⟨w.heap.size + 1, 0, none⟩) (cell_lt l1_R0) hgrow (fun g1 h1 => by simp only [Value.ownBlock, Option.some.injEq] at h1; show w.heap.size + 1 ≠ _; omega)).trans m1_R0; have af_R0_4 := fun o => frz_b (cell_lt c_R0_4) f_R0_4 (below_alloc _ o); have f_R1_4 := (frz_gr (p := ⟨w.heap.size + 1, 1, none⟩) (cell_lt l1_R1) hgrow (fun g1 h1 => by simp only [Value.ownBlock, Option.some.injEq] at h1; show w.heap.size + 1 ≠ _; omega)).trans m1_R1; have af_R1_4 := fun o => frz_b (cell_lt c_R1_4) f_R1_4 (below_alloc _ o); have c_O0_4 := cell_gr l1_O0 hgrow (fun g1 h1 => by simp only [Value.ownBlock, Option.some.injEq] at h1; show w3.heap.size + 1 ≠ _; omega); have f_O0_4 := (frz_gr (p := ⟨w3.heap.size + 1, 0, none⟩) (cell_lt l1_O0) hgrow (fun g1 h1 => by simp only [Value.ownBlock, Option.some.injEq] at h1; show w3.heap.size + 1 ≠ _; omega)).trans m1_O0; have c_O1_4 := cell_gr l1_O1 hgrow (fun g1 h1 => by simp only [Value.ownBlock, Option.some.injEq] at h1; show w3.heap.size + 1 ≠ _; omega); have f_O1_4 := (frz_gr (p := ⟨w3.heap.size + 1, 1, none⟩) (cell_lt l1_O1) hgrow (fun g1 h1 => by simp only [Value.ownBlock, Option.some.injEq] at h1; show w3.heap.size + 1 ≠ _; omega)).trans m1_O1; have HD := Lib.hid hd; have T4 := Lib.hid (below_gr (T3.out.trans (hP1.mono T3.out.size)) (by have h9 := T3.out.size; omega) hgrow (fun g1 h1 => by have h9 := T3.out.size; simp only [Value.ownBlock, Option.some.injEq] at h1; omega)); have z4 : w3.heap.size ≤ w4.heap.size := Nat.le_trans hS1 hgrow.size; have z4b : w3.heap.size + 2 ≤ w4.heap.size := (by have h8 := hgrow.size; simp at h8; omega); have HL : Hid (∀ g1, (Value.slice a4 (xs).length cap4).ownBlock = some g1 → g1 = w3.heap.size ∨ w3.heap.size + 2 ≤ g1) := Lib.hid (fun g1 h1 => by rcases hloc with hloc | hloc <;> rw [hloc] at h1 <;> simp only [Value.ownBlock, Option.some.injEq] at h1 <;> first | (left; exact h1.symm) | (right; subst h1; exact Nat.le_of_eq (by show _ = ((w3.alloc _).alloc _).heap.size; rw [World.size_alloc, World.size_alloc]))); clear hown hgrow hloc hd) | (refine step_append_rd (w := ((w3.alloc (.cells #[.int .i64 0, .slice none 0 0] 25)).alloc (.cells #[] 3)).drew) rfl _ _ 23 rfl (w3.heap.size) i0 Try.underlying23 hi hz0 hz1 hz2 (.slice (some ⟨w3.heap.size + 1, 0, none⟩) 0 0) 0 [] rfl (own_below (ow_made1 w3 _ w3.heap.size (Nat.le_refl _)) (drew_below _)) _ _ _ (xs) rfl HT7.out rfl (by first | (unfold maxLen; simp; done) | (unfold maxLen; omega)) (by first | (simp; done) | omega) hS2 ?_; intro v4 w4 hown hgrow hloc; have hd : w4.ownsRow w3.heap.size 3 1 v4 (xs).length (ints (xs)) := (by rw [Nat.zero_add, List.nil_append] at hown; exact hown); obtain ⟨a4, cap4, hv4⟩ := own_shape hd; subst hv4; have c_R0_4 := cell_gr l2_R0 hgrow (fun g1 h1 => by simp only [Value.ownBlock, Option.some.injEq] at h1; show w.heap.size + 1 ≠ _; omega); have ac_R0_4 := fun o => cell_b c_R0_4 (below_alloc _ o); have c_R1_4 := cell_gr l2_R1 hgrow (fun g1 h1 => by simp only [Value.ownBlock, Option.some.injEq] at h1; show w.heap.size + 1 ≠ _; omega); have ac_R1_4 := fun o => cell_b c_R1_4 (below_alloc _ o); have c_A0_4 := cell_gr l2_A0 hgrow (fun g1 h1 => by simp only [Value.ownBlock, Option.some.injEq] at h1; show w.heap.size ≠ _; omega); have ac_A0_4 := fun o => cell_b c_A0_4 (below_alloc _ o); have c_A1_4 := cell_gr l2_A1 hgrow (fun g1 h1 => by simp only [Value.ownBlock, Option.some.injEq] at h1; show w.heap.size ≠ _; omega); have ac_A1_4 := fun o => cell_b c_A1_4 (below_alloc _ o); have f_R0_4 := (frz_gr (p := ⟨w.heap.size + 1, 0, none⟩) (cell_lt l2_R0) hgrow (fun g1 h1 => by simp only [Value.ownBlock, Option.some.injEq] at h1; show w.heap.size + 1 ≠ _; omega)).trans m2_R0; have af_R0_4 := fun o => frz_b (cell_lt c_R0_4) f_R0_4 (below_alloc _ o); have f_R1_4 := (frz_gr (p := ⟨w.heap.size + 1, 1, none⟩) (cell_lt l2_R1) hgrow (fun g1 h1 => by simp only [Value.ownBlock, Option.some.injEq] at h1; show w.heap.size + 1 ≠ _; omega)).trans m2_R1; have af_R1_4 := fun o => frz_b (cell_lt c_R1_4) f_R1_4 (below_alloc _ o); have c_O0_4 := cell_gr l2_O0 hgrow (fun g1 h1 => by simp only [Value.ownBlock, Option.some.injEq] at h1; show w3.heap.size ≠ _; omega); have f_O0_4 := (frz_gr (p := ⟨w3.heap.size, 0, none⟩) (cell_lt l2_O0) hgrow (fun g1 h1 => by simp only [Value.ownBlock, Option.some.injEq] at h1; show w3.heap.size ≠ _; omega)).trans m2_O0; have c_O1_4 := cell_gr l2_O1 hgrow (fun g1 h1 => by simp only [Value.ownBlock, Option.some.injEq] at h1; show w3.heap.size ≠ _; omega); have f_O1_4 := (frz_gr (p := ⟨w3.heap.size, 1, none⟩) (cell_lt l2_O1) hgrow (fun g1 h1 => by simp only [Value.ownBlock, Option.some.injEq] at h1; show w3.heap.size ≠ _; omega)).trans m2_O1; have HD := Lib.hid hd; have T4 := Lib.hid (below_gr (T3.out.trans (hP2.mono T3.out.size)) (by have h9 := T3.out.size; omega) hgrow (fun g1 h1 => by have h9 := T3.out.size; simp only [Value.ownBlock, Option.some.injEq] at h1; omega)); have z4 : w3.heap.size ≤ w4.heap.size := Nat.le_trans hS2 hgrow.size; have z4b : w3.heap.size + 2 ≤ w4.heap.size := (by have h8 := hgrow.size; simp at h8; omega); have HL : Hid (∀ g1, (Value.slice a4 (xs).length cap4).ownBlock = some g1 → g1 = w3.heap.size + 1 ∨ w3.heap.size + 2 ≤ g1) := Lib.hid (fun g1 h1 => by rcases hloc with hloc | hloc <;> rw [hloc] at h1 <;> simp only [Value.ownBlock, Option.some.injEq] at h1 <;> first | (left; exact h1.symm) | (right; subst h1; exact Nat.le_of_eq (by show _ = ((w3.alloc _).alloc _).heap.size; rw [World.size_alloc, World.size_alloc]))); clear hown hgrow hloc hd))
          · have c_A0_5 : (w4.alloc (.cells #[.int .i64 c, .slice a4 xs.length cap4] 25)).cell? ⟨w.heap.size, 0, none⟩ = some (.int .i64 c) := ac_A0_4 _
            have c_R0_5 : (w4.alloc (.cells #[.int .i64 c, .slice a4 xs.length cap4] 25)).cell? ⟨w.heap.size + 1, 0, none⟩ = some (.int .i64 0) := ac_R0_4 _
            have c_R1_5 : (w4.alloc (.cells #[.int .i64 c, .slice a4 xs.length cap4] 25)).cell? ⟨w.heap.size + 1, 1, none⟩ = some (.slice none 0 0) := ac_R1_4 _
            have c_O0_5 : (w4.alloc (.cells #[.int .i64 c, .slice a4 xs.length cap4] 25)).cell? ⟨w4.heap.size, 0, none⟩ = some (.int .i64 c) := by simp
            have c_O1_5 : (w4.alloc (.cells #[.int .i64 c, .slice a4 xs.length cap4] 25)).cell? ⟨w4.heap.size, 1, none⟩ = some (.slice a4 xs.length cap4) := by simp
            have f_R0_5 : (w4.alloc (.cells #[.int .i64 c, .slice a4 xs.length cap4] 25)).frozen? ⟨w.heap.size + 1, 0, none⟩ = false := af_R0_4 _
            have f_R1_5 : (w4.alloc (.cells #[.int .i64 c, .slice a4 xs.length cap4] 25)).frozen? ⟨w.heap.size + 1, 1, none⟩ = false := af_R1_4 _
            have f_O1_5 : (w4.alloc (.cells #[.int .i64 c, .slice a4 xs.length cap4] 25)).frozen? ⟨w4.heap.size, 1, none⟩ = false := by simp
            have T5 : Hid (Below w.heap.size w (w4.alloc (.cells #[.int .i64 c, .slice a4 xs.length cap4] 25))) := Lib.hid (T4.out.alloc T4.out.size _)
            have gq : Hid (∀ g, (Value.slice a4 (xs).length cap4).ownBlock = some g → g ≠ w4.heap.size) := Lib.hid (fun g h => by have h1 := HL.out g h; omega)
            have od : (w4.alloc (.cells #[.int .i64 c, .slice a4 xs.length cap4] 25)).ownsRow w3.heap.size 3 1 (.slice a4 (xs).length cap4) (xs).length (ints (xs)) := own_below HD.out (below_alloc _ _)
            have z5 : w4.heap.size + 1 ≤ (w4.alloc (.cells #[.int .i64 c, .slice a4 xs.length cap4] 25)).heap.size := by simp
            have hi_d := Lib.hid (own_hi od)
            have lo_d := Lib.hid (own_lo od)
            have o_d_5 := Lib.hid od
            clear od
            have j1 : ¬ w4.heap.size = w.heap.size + 1 := by omega
            have j2 : ¬ w.heap.size + 1 = w4.heap.size := by omega
            generalize w4.alloc (.cells #[.int .i64 c, .slice a4 xs.length cap4] 25) = w5 at *
            have ac_A0_5 := fun o => cell_b c_A0_5 (below_alloc _ o)
            have ac_R0_5 := fun o => cell_b c_R0_5 (below_alloc _ o)
            have ac_R1_5 := fun o => cell_b c_R1_5 (below_alloc _ o)
            have ac_O0_5 := fun o => cell_b c_O0_5 (below_alloc _ o)
            have ac_O1_5 := fun o => cell_b c_O1_5 (below_alloc _ o)
            have af_R0_5 := fun o => frz_b (cell_lt c_R0_5) f_R0_5 (below_alloc _ o)
            have af_R1_5 := fun o => frz_b (cell_lt c_R1_5) f_R1_5 (below_alloc _ o)
            have af_O1_5 := fun o => frz_b (cell_lt c_O1_5) f_O1_5 (below_alloc _ o)
            have tok6 : True := trivial
            go_wp2_with (first | (at_builtin; have _t := tok6; refine wpList_append_own_at _ rfl _ _ 23 rfl (w3.heap.size) 3 i0 (.int .i64 0) 1 8 Try.underlying23 hi hz0 hz1 hz2 rfl (by decide) (.slice a4 xs.length cap4) (xs.length) (ints (xs)) rfl (own_below (o_d_5.out) (below_alloc _ _)) ⟨w5.heap.size, 0, none⟩ 1 1 [.int .i64 (t)] rfl rfl (cell_one_new _ _ _) (ints_oneCell .i64 [t]) (by unfold maxLen; omega) (by omega) (by simp; try omega) ?_; intro v6 w6 hown hgrow _ hloc; clear tok6; have ho : w6.ownsRow (w3.heap.size) 3 1 v6 (xs.length + 1) (ints (xs ++ [t])) := (by rw [ints_append]; exact hown); obtain ⟨a6, cap6, hv⟩ := own_shape ho; subst hv; have c_A0_6 := cell_gr (cell_b c_A0_5 (below_alloc _ _)) hgrow (fun g h => by have h1 := lo_d.out g h; have h2 := hi_d.out g h; have h3 := gq.out g h; show w.heap.size ≠ g; omega); have c_R0_6 := cell_gr (cell_b c_R0_5 (below_alloc _ _)) hgrow (fun g h => by have h1 := lo_d.out g h; have h2 := hi_d.out g h; have h3 := gq.out g h; show w.heap.size + 1 ≠ g; omega); have c_R1_6 := cell_gr (cell_b c_R1_5 (below_alloc _ _)) hgrow (fun g h => by have h1 := lo_d.out g h; have h2 := hi_d.out g h; have h3 := gq.out g h; show w.heap.size + 1 ≠ g; omega); have c_O0_6 := cell_gr (cell_b c_O0_5 (below_alloc _ _)) hgrow (fun g h => by have h1 := lo_d.out g h; have h2 := hi_d.out g h; have h3 := gq.out g h; show w4.heap.size ≠ g; omega); have c_O1_6 := cell_gr (cell_b c_O1_5 (below_alloc _ _)) hgrow (fun g h => by have h1 := lo_d.out g h; have h2 := hi_d.out g h; have h3 := gq.out g h; show w4.heap.size ≠ g; omega); have f_R0_6 := (frz_gr (p := ⟨w.heap.size + 1, 0, none⟩) (cell_lt (cell_b c_R0_5 (below_alloc _ _))) hgrow (fun g h => by have h1 := lo_d.out g h; have h2 := hi_d.out g h; have h3 := gq.out g h; show w.heap.size + 1 ≠ g; omega)).trans (frz_b (cell_lt c_R0_5) f_R0_5 (below_alloc _ _)); have f_R1_6 := (frz_gr (p := ⟨w.heap.size + 1, 1, none⟩) (cell_lt (cell_b c_R1_5 (below_alloc _ _))) hgrow (fun g h => by have h1 := lo_d.out g h; have h2 := hi_d.out g h; have h3 := gq.out g h; show w.heap.size + 1 ≠ g; omega)).trans (frz_b (cell_lt c_R1_5) f_R1_5 (below_alloc _ _)); have f_O1_6 := (frz_gr (p := ⟨w4.heap.size, 1, none⟩) (cell_lt (cell_b c_O1_5 (below_alloc _ _))) hgrow (fun g h => by have h1 := lo_d.out g h; have h2 := hi_d.out g h; have h3 := gq.out g h; show w4.heap.size ≠ g; omega)).trans (frz_b (cell_lt c_O1_5) f_O1_5 (below_alloc _ _)); have z6 : w5.heap.size + 1 ≤ w6.heap.size := (by have := hgrow.size; (try simp at this); omega); have T6 := Lib.hid (below_gr (T5.out.trans ((below_alloc _ _ : Below w5.heap.size w5 _).mono T5.out.size)) (by have := T5.out.size; simp; try omega) hgrow (fun g h => by have h9 := T5.out.size; have h1 := lo_d.out g h; have h2 := hi_d.out g h; have h3 := gq.out g h; omega)); have o_e_6 := Lib.hid ho; have lo_e := Lib.hid (own_lo o_e_6.out); have hi_e := Lib.hid (own_hi o_e_6.out); have gq6 : Hid (Value.ownBlock (.slice a6 (xs.length + 1) cap6) ≠ some (w4.heap.size)) := Lib.hid (fun h9 => by rcases hloc with h8 | h8 <;> rw [h9] at h8 <;> first | exact gq.out _ h8.symm rfl | (simp at h8; omega)); have ac_A0_6 := fun o => cell_b c_A0_6 (below_alloc _ o); have ac_R0_6 := fun o => cell_b c_R0_6 (below_alloc _ o); have ac_R1_6 := fun o => cell_b c_R1_6 (below_alloc _ o); have ac_O0_6 := fun o => cell_b c_O0_6 (below_alloc _ o); have ac_O1_6 := fun o => cell_b c_O1_6 (below_alloc _ o); have af_R0_6 := fun o => frz_b (cell_lt c_R0_6) f_R0_6 (below_alloc _ o); have af_R1_6 := fun o => frz_b (cell_lt c_R1_6) f_R1_6 (below_alloc _ o); have af_O1_6 := fun o => frz_b (cell_lt c_O1_6) f_O1_6 (below_alloc _ o); clear hown hgrow ho T5 ac_A0_5 ac_R0_5 ac_R1_5 ac_O0_5 ac_O1_5 af_R0_5 af_R1_5 af_O1_5 c_A0_5 c_R0_5 c_R1_5 c_O0_5 c_O1_5 f_R0_5 f_R1_5 f_O1_5 o_d_5))
            go_wp2_with fail
            have O6 : Ow w6 w3.heap.size (.slice a6 (xs.length + 1) cap6) (xs ++ [t]) := (by have := o_e_6.out; unfold Ow; rwa [show (xs ++ [t]).length = xs.length + 1 by simp])
            refine bodyPost_ret (v := .tuple #[.agg #[.int .i64 c, .slice a6 (xs.length + 1) cap6], .bool false, .bool true]) (by simp [results, Try.results19, go_sem, c_R0_6, c_R1_6]) rfl ⟨a6, cap6, by simp, ?_, ((T6.out.setCell (by simp; try omega) _).setCell (by simp) _).setCell (by simp) _⟩
            simp only [List.length_append, List.length_cons, List.length_nil]
            refine own_base (b := w3.heap.size) ?_ (by omega)
            exact ownsRow_setCell_below (ownsRow_setCell_below (ownsRow_setCell_other O6 (fun h9 => gq6.out h9) _) (by show _ + 1 < _; omega) _) (by show _ + 1 < _; omega) _
          · have c_A0_5 : ((w4.setCell ⟨w3.heap.size + 1, 0, none⟩ (.int .i64 c)).setCell ⟨w3.heap.size + 1, 1, none⟩ (.slice a4 xs.length cap4)).cell? ⟨w.heap.size, 0, none⟩ = some (.int .i64 c) := (World.cell?_setCell_far _ _ _ _ (by simp; omega)).trans ((World.cell?_setCell_far _ _ _ _ (by simp; omega)).trans c_A0_4)
            have c_R0_5 : ((w4.setCell ⟨w3.heap.size + 1, 0, none⟩ (.int .i64 c)).setCell ⟨w3.heap.size + 1, 1, none⟩ (.slice a4 xs.length cap4)).cell? ⟨w.heap.size + 1, 0, none⟩ = some (.int .i64 0) := (World.cell?_setCell_far _ _ _ _ (by simp; omega)).trans ((World.cell?_setCell_far _ _ _ _ (by simp; omega)).trans c_R0_4)
            have c_R1_5 : ((w4.setCell ⟨w3.heap.size + 1, 0, none⟩ (.int .i64 c)).setCell ⟨w3.heap.size + 1, 1, none⟩ (.slice a4 xs.length cap4)).cell? ⟨w.heap.size + 1, 1, none⟩ = some (.slice none 0 0) := (World.cell?_setCell_far _ _ _ _ (by simp; omega)).trans ((World.cell?_setCell_far _ _ _ _ (by simp; omega)).trans c_R1_4)
            have c_O0_5 : ((w4.setCell ⟨w3.heap.size + 1, 0, none⟩ (.int .i64 c)).setCell ⟨w3.heap.size + 1, 1, none⟩ (.slice a4 xs.length cap4)).cell? ⟨w3.heap.size + 1, 0, none⟩ = some (.int .i64 c) := (World.cell?_setCell_other _ _ _ _ (by simp)).trans (World.cell?_setCell_same _ _ _ c_O0_4)
            have c_O1_5 : ((w4.setCell ⟨w3.heap.size + 1, 0, none⟩ (.int .i64 c)).setCell ⟨w3.heap.size + 1, 1, none⟩ (.slice a4 xs.length cap4)).cell? ⟨w3.heap.size + 1, 1, none⟩ = some (.slice a4 xs.length cap4) := World.cell?_setCell_same _ _ _ ((World.cell?_setCell_other _ _ _ _ (by simp)).trans c_O1_4)
            have f_R0_5 : ((w4.setCell ⟨w3.heap.size + 1, 0, none⟩ (.int .i64 c)).setCell ⟨w3.heap.size + 1, 1, none⟩ (.slice a4 xs.length cap4)).frozen? ⟨w.heap.size + 1, 0, none⟩ = false := (by simp [f_R0_4])
            have f_R1_5 : ((w4.setCell ⟨w3.heap.size + 1, 0, none⟩ (.int .i64 c)).setCell ⟨w3.heap.size + 1, 1, none⟩ (.slice a4 xs.length cap4)).frozen? ⟨w.heap.size + 1, 1, none⟩ = false := (by simp [f_R1_4])
            have f_O1_5 : ((w4.setCell ⟨w3.heap.size + 1, 0, none⟩ (.int .i64 c)).setCell ⟨w3.heap.size + 1, 1, none⟩ (.slice a4 xs.length cap4)).frozen? ⟨w3.heap.size + 1, 1, none⟩ = false := (by simp [f_O1_4])
            have T5 : Hid (Below w.heap.size w ((w4.setCell ⟨w3.heap.size + 1, 0, none⟩ (.int .i64 c)).setCell ⟨w3.heap.size + 1, 1, none⟩ (.slice a4 xs.length cap4))) := Lib.hid ((T4.out.setCell (by have := T3.out.size; simp; omega) _).setCell (by have := T3.out.size; simp; omega) _)
            have gq : Hid (∀ g, (Value.slice a4 (xs).length cap4).ownBlock = some g → g ≠ w3.heap.size + 1) := Lib.hid (fun g h => by have h1 := HL.out g h; omega)
            have od : ((w4.setCell ⟨w3.heap.size + 1, 0, none⟩ (.int .i64 c)).setCell ⟨w3.heap.size + 1, 1, none⟩ (.slice a4 xs.length cap4)).ownsRow w3.heap.size 3 1 (.slice a4 (xs).length cap4) (xs).length (ints (xs)) := ownsRow_setCell_other (ownsRow_setCell_other HD.out (fun h => gq.out _ h rfl) _) (fun h => gq.out _ h rfl) _
            have z5 : w4.heap.size  ≤ ((w4.setCell ⟨w3.heap.size + 1, 0, none⟩ (.int .i64 c)).setCell ⟨w3.heap.size + 1, 1, none⟩ (.slice a4 xs.length cap4)).heap.size := by simp
            have hi_d := Lib.hid (own_hi od)
            have lo_d := Lib.hid (own_lo od)
            have o_d_5 := Lib.hid od
            clear od
            have j1 : ¬ w3.heap.size + 1 = w.heap.size + 1 := by omega
            have j2 : ¬ w.heap.size + 1 = w3.heap.size + 1 := by omega
            generalize (w4.setCell ⟨w3.heap.size + 1, 0, none⟩ (.int .i64 c)).setCell ⟨w3.heap.size + 1, 1, none⟩ (.slice a4 xs.length cap4) = w5 at *
            have ac_A0_5 := fun o => cell_b c_A0_5 (below_alloc _ o)
            have ac_R0_5 := fun o => cell_b c_R0_5 (below_alloc _ o)
            have ac_R1_5 := fun o => cell_b c_R1_5 (below_alloc _ o)
            have ac_O0_5 := fun o => cell_b c_O0_5 (below_alloc _ o)
            have ac_O1_5 := fun o => cell_b c_O1_5 (below_alloc _ o)
            have af_R0_5 := fun o => frz_b (cell_lt c_R0_5) f_R0_5 (below_alloc _ o)
            have af_R1_5 := fun o => frz_b (cell_lt c_R1_5) f_R1_5 (below_alloc _ o)
            have af_O1_5 := fun o => frz_b (cell_lt c_O1_5) f_O1_5 (below_alloc _ o)
            have tok6 : True := trivial
            go_wp2_with (first | (at_builtin; have _t := tok6; refine wpList_append_own_at _ rfl _ _ 23 rfl (w3.heap.size) 3 i0 (.int .i64 0) 1 8 Try.underlying23 hi hz0 hz1 hz2 rfl (by decide) (.slice a4 xs.length cap4) (xs.length) (ints (xs)) rfl (own_below (o_d_5.out) (below_alloc _ _)) ⟨w5.heap.size, 0, none⟩ 1 1 [.int .i64 (t)] rfl rfl (cell_one_new _ _ _) (ints_oneCell .i64 [t]) (by unfold maxLen; omega) (by omega) (by simp; try omega) ?_; intro v6 w6 hown hgrow _ hloc; clear tok6; have ho : w6.ownsRow (w3.heap.size) 3 1 v6 (xs.length + 1) (ints (xs ++ [t])) := (by rw [ints_append]; exact hown); obtain ⟨a6, cap6, hv⟩ := own_shape ho; subst hv; have c_A0_6 := cell_gr (cell_b c_A0_5 (below_alloc _ _)) hgrow (fun g h => by have h1 := lo_d.out g h; have h2 := hi_d.out g h; have h3 := gq.out g h; show w.heap.size ≠ g; omega); have c_R0_6 := cell_gr (cell_b c_R0_5 (below_alloc _ _)) hgrow (fun g h => by have h1 := lo_d.out g h; have h2 := hi_d.out g h; have h3 := gq.out g h; show w.heap.size + 1 ≠ g; omega); have c_R1_6 := cell_gr (cell_b c_R1_5 (below_alloc _ _)) hgrow (fun g h => by have h1 := lo_d.out g h; have h2 := hi_d.out g h; have h3 := gq.out g h; show w.heap.size + 1 ≠ g; omega); have c_O0_6 := cell_gr (cell_b c_O0_5 (below_alloc _ _)) hgrow (fun g h => by have h1 := lo_d.out g h; have h2 := hi_d.out g h; have h3 := gq.out g h; show w3.heap.size + 1 ≠ g; omega); have c_O1_6 := cell_gr (cell_b c_O1_5 (below_alloc _ _)) hgrow (fun g h => by have h1 := lo_d.out g h; have h2 := hi_d.out g h; have h3 := gq.out g h; show w3.heap.size + 1 ≠ g; omega); have f_R0_6 := (frz_gr (p := ⟨w.heap.size + 1, 0, none⟩) (cell_lt (cell_b c_R0_5 (below_alloc _ _))) hgrow (fun g h => by have h1 := lo_d.out g h; have h2 := hi_d.out g h; have h3 := gq.out g h; show w.heap.size + 1 ≠ g; omega)).trans (frz_b (cell_lt c_R0_5) f_R0_5 (below_alloc _ _)); have f_R1_6 := (frz_gr (p := ⟨w.heap.size + 1, 1, none⟩) (cell_lt (cell_b c_R1_5 (below_alloc _ _))) hgrow (fun g h => by have h1 := lo_d.out g h; have h2 := hi_d.out g h; have h3 := gq.out g h; show w.heap.size + 1 ≠ g; omega)).trans (frz_b (cell_lt c_R1_5) f_R1_5 (below_alloc _ _)); have f_O1_6 := (frz_gr (p := ⟨w3.heap.size + 1, 1, none⟩) (cell_lt (cell_b c_O1_5 (below_alloc _ _))) hgrow (fun g h => by have h1 := lo_d.out g h; have h2 := hi_d.out g h; have h3 := gq.out g h; show w3.heap.size + 1 ≠ g; omega)).trans (frz_b (cell_lt c_O1_5) f_O1_5 (below_alloc _ _)); have z6 : w5.heap.size + 1 ≤ w6.heap.size := (by have := hgrow.size; (try simp at this); omega); have T6 := Lib.hid (below_gr (T5.out.trans ((below_alloc _ _ : Below w5.heap.size w5 _).mono T5.out.size)) (by have := T5.out.size; simp; try omega) hgrow (fun g h => by have h9 := T5.out.size; have h1 := lo_d.out g h; have h2 := hi_d.out g h; have h3 := gq.out g h; omega)); have o_e_6 := Lib.hid ho; have lo_e := Lib.hid (own_lo o_e_6.out); have hi_e := Lib.hid (own_hi o_e_6.out); have gq6 : Hid (Value.ownBlock (.slice a6 (xs.length + 1) cap6) ≠ some (w3.heap.size + 1)) := Lib.hid (fun h9 => by rcases hloc with h8 | h8 <;> rw [h9] at h8 <;> first | exact gq.out _ h8.symm rfl | (simp at h8; omega)); have ac_A0_6 := fun o => cell_b c_A0_6 (below_alloc _ o); have ac_R0_6 := fun o => cell_b c_R0_6 (below_alloc _ o); have ac_R1_6 := fun o => cell_b c_R1_6 (below_alloc _ o); have ac_O0_6 := fun o => cell_b c_O0_6 (below_alloc _ o); have ac_O1_6 := fun o => cell_b c_O1_6 (below_alloc _ o); have af_R0_6 := fun o => frz_b (cell_lt c_R0_6) f_R0_6 (below_alloc _ o); have af_R1_6 := fun o => frz_b (cell_lt c_R1_6) f_R1_6 (below_alloc _ o); have af_O1_6 := fun o => frz_b (cell_lt c_O1_6) f_O1_6 (below_alloc _ o); clear hown hgrow ho T5 ac_A0_5 ac_R0_5 ac_R1_5 ac_O0_5 ac_O1_5 af_R0_5 af_R1_5 af_O1_5 c_A0_5 c_R0_5 c_R1_5 c_O0_5 c_O1_5 f_R0_5 f_R1_5 f_O1_5 o_d_5))
            go_wp2_with fail
            have O6 : Ow w6 w3.heap.size (.slice a6 (xs.length + 1) cap6) (xs ++ [t]) := (by have := o_e_6.out; unfold Ow; rwa [show (xs ++ [t]).length = xs.length + 1 by simp])
            refine bodyPost_ret (v := .tuple #[.agg #[.int .i64 c, .slice a6 (xs.length + 1) cap6], .bool false, .bool true]) (by simp [results, Try.results19, go_sem, c_R0_6, c_R1_6]) rfl ⟨a6, cap6, by simp, ?_, ((T6.out.setCell (by simp; try omega) _).setCell (by simp) _).setCell (by simp) _⟩
            simp only [List.length_append, List.length_cons, List.length_nil]
            refine own_base (b := w3.heap.size) ?_ (by omega)
            exact ownsRow_setCell_below (ownsRow_setCell_below (ownsRow_setCell_other O6 (fun h9 => gq6.out h9) _) (by show _ + 1 < _; omega) _) (by show _ + 1 < _; omega) _
          · have c_A0_5 : ((w4.setCell ⟨w3.heap.size, 0, none⟩ (.int .i64 c)).setCell ⟨w3.heap.size, 1, none⟩ (.slice a4 xs.length cap4)).cell? ⟨w.heap.size, 0, none⟩ = some (.int .i64 c) := (World.cell?_setCell_far _ _ _ _ (by simp; omega)).trans ((World.cell?_setCell_far _ _ _ _ (by simp; omega)).trans c_A0_4)
            have c_R0_5 : ((w4.setCell ⟨w3.heap.size, 0, none⟩ (.int .i64 c)).setCell ⟨w3.heap.size, 1, none⟩ (.slice a4 xs.length cap4)).cell? ⟨w.heap.size + 1, 0, none⟩ = some (.int .i64 0) := (World.cell?_setCell_far _ _ _ _ (by simp; omega)).trans ((World.cell?_setCell_far _ _ _ _ (by simp; omega)).trans c_R0_4)
            have c_R1_5 : ((w4.setCell ⟨w3.heap.size, 0, none⟩ (.int .i64 c)).setCell ⟨w3.heap.size, 1, none⟩ (.slice a4 xs.length cap4)).cell? ⟨w.heap.size + 1, 1, none⟩ = some (.slice none 0 0) := (World.cell?_setCell_far _ _ _ _ (by simp; omega)).trans ((World.cell?_setCell_far _ _ _ _ (by simp; omega)).trans c_R1_4)
            have c_O0_5 : ((w4.setCell ⟨w3.heap.size, 0, none⟩ (.int .i64 c)).setCell ⟨w3.heap.size, 1, none⟩ (.slice a4 xs.length cap4)).cell? ⟨w3.heap.size, 0, none⟩ = some (.int .i64 c) := (World.cell?_setCell_other _ _ _ _ (by simp)).trans (World.cell?_setCell_same _ _ _ c_O0_4)
            have c_O1_5 : ((w4.setCell ⟨w3.heap.size, 0, none⟩ (.int .i64 c)).setCell ⟨w3.heap.size, 1, none⟩ (.slice a4 xs.length cap4)).cell? ⟨w3.heap.size, 1, none⟩ = some (.slice a4 xs.length cap4) := World.cell?_setCell_same _ _ _ ((World.cell?_setCell_other _ _ _ _ (by simp)).trans c_O1_4)
            have f_R0_5 : ((w4.setCell ⟨w3.heap.size, 0, none⟩ (.int .i64 c)).setCell ⟨w3.heap.size, 1, none⟩ (.slice a4 xs.length cap4)).frozen? ⟨w.heap.size + 1, 0, none⟩ = false := (by simp [f_R0_4])
            have f_R1_5 : ((w4.setCell ⟨w3.heap.size, 0, none⟩ (.int .i64 c)).setCell ⟨w3.heap.size, 1, none⟩ (.slice a4 xs.length cap4)).frozen? ⟨w.heap.size + 1, 1, none⟩ = false := (by simp [f_R1_4])
            have f_O1_5 : ((w4.setCell ⟨w3.heap.size, 0, none⟩ (.int .i64 c)).setCell ⟨w3.heap.size, 1, none⟩ (.slice a4 xs.length cap4)).frozen? ⟨w3.heap.size, 1, none⟩ = false := (by simp [f_O1_4])
            have T5 : Hid (Below w.heap.size w ((w4.setCell ⟨w3.heap.size, 0, none⟩ (.int .i64 c)).setCell ⟨w3.heap.size, 1, none⟩ (.slice a4 xs.length cap4))) := Lib.hid ((T4.out.setCell (by have := T3.out.size; simp; omega) _).setCell (by have := T3.out.size; simp; omega) _)
            have gq : Hid (∀ g, (Value.slice a4 (xs).length cap4).ownBlock = some g → g ≠ w3.heap.size) := Lib.hid (fun g h => by have h1 := HL.out g h; omega)
            have od : ((w4.setCell ⟨w3.heap.size, 0, none⟩ (.int .i64 c)).setCell ⟨w3.heap.size, 1, none⟩ (.slice a4 xs.length cap4)).ownsRow w3.heap.size 3 1 (.slice a4 (xs).length cap4) (xs).length (ints (xs)) := ownsRow_setCell_other (ownsRow_setCell_other HD.out (fun h => gq.out _ h rfl) _) (fun h => gq.out _ h rfl) _
            have z5 : w4.heap.size  ≤ ((w4.setCell ⟨w3.heap.size, 0, none⟩ (.int .i64 c)).setCell ⟨w3.heap.size, 1, none⟩ (.slice a4 xs.length cap4)).heap.size := by simp
            have hi_d := Lib.hid (own_hi od)
            have lo_d := Lib.hid (own_lo od)
            have o_d_5 := Lib.hid od
            clear od
            have j1 : ¬ w3.heap.size = w.heap.size + 1 := by omega
            have j2 : ¬ w.heap.size + 1 = w3.heap.size := by omega
            generalize (w4.setCell ⟨w3.heap.size, 0, none⟩ (.int .i64 c)).setCell ⟨w3.heap.size, 1, none⟩ (.slice a4 xs.length cap4) = w5 at *
            have ac_A0_5 := fun o => cell_b c_A0_5 (below_alloc _ o)
            have ac_R0_5 := fun o => cell_b c_R0_5 (below_alloc _ o)
            have ac_R1_5 := fun o => cell_b c_R1_5 (below_alloc _ o)
            have ac_O0_5 := fun o => cell_b c_O0_5 (below_alloc _ o)
            have ac_O1_5 := fun o => cell_b c_O1_5 (below_alloc _ o)
            have af_R0_5 := fun o => frz_b (cell_lt c_R0_5) f_R0_5 (below_alloc _ o)
            have af_R1_5 := fun o => frz_b (cell_lt c_R1_5) f_R1_5 (below_alloc _ o)
            have af_O1_5 := fun o => frz_b (cell_lt c_O1_5) f_O1_5 (below_alloc _ o)
            have tok6 : True := trivial
            go_wp2_with (first | (at_builtin; have _t := tok6; refine wpList_append_own_at _ rfl _ _ 23 rfl (w3.heap.size) 3 i0 (.int .i64 0) 1 8 Try.underlying23 hi hz0 hz1 hz2 rfl (by decide) (.slice a4 xs.length cap4) (xs.length) (ints (xs)) rfl (own_below (o_d_5.out) (below_alloc _ _)) ⟨w5.heap.size, 0, none⟩ 1 1 [.int .i64 (t)] rfl rfl (cell_one_new _ _ _) (ints_oneCell .i64 [t]) (by unfold maxLen; omega) (by omega) (by simp; try omega) ?_; intro v6 w6 hown hgrow _ hloc; clear tok6; have ho : w6.ownsRow (w3.heap.size) 3 1 v6 (xs.length + 1) (ints (xs ++ [t])) := (by rw [ints_append]; exact hown); obtain ⟨a6, cap6, hv⟩ := own_shape ho; subst hv; have c_A0_6 := cell_gr (cell_b c_A0_5 (below_alloc _ _)) hgrow (fun g h => by have h1 := lo_d.out g h; have h2 := hi_d.out g h; have h3 := gq.out g h; show w.heap.size ≠ g; omega); have c_R0_6 := cell_gr (cell_b c_R0_5 (below_alloc _ _)) hgrow (fun g h => by have h1 := lo_d.out g h; have h2 := hi_d.out g h; have h3 := gq.out g h; show w.heap.size + 1 ≠ g; omega); have c_R1_6 := cell_gr (cell_b c_R1_5 (below_alloc _ _)) hgrow (fun g h => by have h1 := lo_d.out g h; have h2 := hi_d.out g h; have h3 := gq.out g h; show w.heap.size + 1 ≠ g; omega); have c_O0_6 := cell_gr (cell_b c_O0_5 (below_alloc _ _)) hgrow (fun g h => by have h1 := lo_d.out g h; have h2 := hi_d.out g h; have h3 := gq.out g h; show w3.heap.size ≠ g; omega); have c_O1_6 := cell_gr (cell_b c_O1_5 (below_alloc _ _)) hgrow (fun g h => by have h1 := lo_d.out g h; have h2 := hi_d.out g h; have h3 := gq.out g h; show w3.heap.size ≠ g; omega); have f_R0_6 := (frz_gr (p := ⟨w.heap.size + 1, 0, none⟩) (cell_lt (cell_b c_R0_5 (below_alloc _ _))) hgrow (fun g h => by have h1 := lo_d.out g h; have h2 := hi_d.out g h; have h3 := gq.out g h; show w.heap.size + 1 ≠ g; omega)).trans (frz_b (cell_lt c_R0_5) f_R0_5 (below_alloc _ _)); have f_R1_6 := (frz_gr (p := ⟨w.heap.size + 1, 1, none⟩) (cell_lt (cell_b c_R1_5 (below_alloc _ _))) hgrow (fun g h => by have h1 := lo_d.out g h; have h2 := hi_d.out g h; have h3 := gq.out g h; show w.heap.size + 1 ≠ g; omega)).trans (frz_b (cell_lt c_R1_5) f_R1_5 (below_alloc _ _)); have f_O1_6 := (frz_gr (p := ⟨w3.heap.size, 1, none⟩) (cell_lt (cell_b c_O1_5 (below_alloc _ _))) hgrow (fun g h => by have h1 := lo_d.out g h; have h2 := hi_d.out g h; have h3 := gq.out g h; show w3.heap.size ≠ g; omega)).trans (frz_b (cell_lt c_O1_5) f_O1_5 (below_alloc _ _)); have z6 : w5.heap.size + 1 ≤ w6.heap.size := (by have := hgrow.size; (try simp at this); omega); have T6 := Lib.hid (below_gr (T5.out.trans ((below_alloc _ _ : Below w5.heap.size w5 _).mono T5.out.size)) (by have := T5.out.size; simp; try omega) hgrow (fun g h => by have h9 := T5.out.size; have h1 := lo_d.out g h; have h2 := hi_d.out g h; have h3 := gq.out g h; omega)); have o_e_6 := Lib.hid ho; have lo_e := Lib.hid (own_lo o_e_6.out); have hi_e := Lib.hid (own_hi o_e_6.out); have gq6 : Hid (Value.ownBlock (.slice a6 (xs.length + 1) cap6) ≠ some (w3.heap.size)) := Lib.hid (fun h9 => by rcases hloc with h8 | h8 <;> rw [h9] at h8 <;> first | exact gq.out _ h8.symm rfl | (simp at h8; omega)); have ac_A0_6 := fun o => cell_b c_A0_6 (below_alloc _ o); have ac_R0_6 := fun o => cell_b c_R0_6 (below_alloc _ o); have ac_R1_6 := fun o => cell_b c_R1_6 (below_alloc _ o); have ac_O0_6 := fun o => cell_b c_O0_6 (below_alloc _ o); have ac_O1_6 := fun o => cell_b c_O1_6 (below_alloc _ o); have af_R0_6 := fun o => frz_b (cell_lt c_R0_6) f_R0_6 (below_alloc _ o); have af_R1_6 := fun o => frz_b (cell_lt c_R1_6) f_R1_6 (below_alloc _ o); have af_O1_6 := fun o => frz_b (cell_lt c_O1_6) f_O1_6 (below_alloc _ o); clear hown hgrow ho T5 ac_A0_5 ac_R0_5 ac_R1_5 ac_O0_5 ac_O1_5 af_R0_5 af_R1_5 af_O1_5 c_A0_5 c_R0_5 c_R1_5 c_O0_5 c_O1_5 f_R0_5 f_R1_5 f_O1_5 o_d_5))
            go_wp2_with fail
            have O6 : Ow w6 w3.heap.size (.slice a6 (xs.length + 1) cap6) (xs ++ [t]) := (by have := o_e_6.out; unfold Ow; rwa [show (xs ++ [t]).length = xs.length + 1 by simp])
            refine bodyPost_ret (v := .tuple #[.agg #[.int .i64 c, .slice a6 (xs.length + 1) cap6], .bool false, .bool true]) (by simp [results, Try.results19, go_sem, c_R0_6, c_R1_6]) rfl ⟨a6, cap6, by simp, ?_, ((T6.out.setCell (by simp; try omega) _).setCell (by simp) _).setCell (by simp) _⟩
            simp only [List.length_append, List.length_cons, List.length_nil]
            refine own_base (b := w3.heap.size) ?_ (by omega)
            exact ownsRow_setCell_below (ownsRow_setCell_below (ownsRow_setCell_other O6 (fun h9 => gq6.out h9) _) (by show _ + 1 < _; omega) _) (by show _ + 1 < _; omega) _
    · have ht' : thr t = false := by simpa using ht
      clear ht
      have e0 : wg c xs t = (0, [], false, false) := by simp [wg, ht']
      simp only [e0]
      clear e0
      go_enter Try.func19, Try.ntmps19
      have T0 := Lib.hid (Below.refl w.heap.size w)
      go_wp2_with fail
      refine (S_GroupValid _ c _ xs (rd_alloc (rd_alloc (rd_below HR.out T0.out) _) _) (by first | omega | simp)).mono ?_
      rintro e w1 ⟨rfl, hb⟩
      have D1 : Below w.heap.size w w1 := below_trans (below_alloc _ _) (below_trans (below_alloc _ _) (hb))
      have T1 := Lib.hid (below_trans T0.out D1)
      have z1 : w.heap.size + 2 ≤ w1.heap.size := (by have := hb.size; (try simp at this); omega)
      have c_A0_1 := cell_b (p := ⟨w.heap.size, 0, none⟩) (v := .int .i64 c) (by simp) hb
      have c_A1_1 := cell_b (p := ⟨w.heap.size, 1, none⟩) (v := .slice a xs.length cap) (by simp) hb
      have c_R0_1 := cell_b (p := ⟨w.heap.size + 1, 0, none⟩) (v := .int .i64 0) (by simp) hb
      have f_R0_1 : w1.frozen? ⟨w.heap.size + 1, 0, none⟩ = false := (hb.frozen (p := ⟨w.heap.size + 1, 0, none⟩) (by simp; try omega)).trans (by simp)
      have c_R1_1 := cell_b (p := ⟨w.heap.size + 1, 1, none⟩) (v := .slice none 0 0) (by simp) hb
      have f_R1_1 : w1.frozen? ⟨w.heap.size + 1, 1, none⟩ = false := (hb.frozen (p := ⟨w.heap.size + 1, 1, none⟩) (by simp; try omega)).trans (by simp)
      have ac_A0_1 := fun o => cell_b c_A0_1 (below_alloc _ o)
      have bc_A0_1 := fun o o1 => cell_b (ac_A0_1 o) (below_alloc _ o1)
      have ac_A1_1 := fun o => cell_b c_A1_1 (below_alloc _ o)
      have bc_A1_1 := fun o o1 => cell_b (ac_A1_1 o) (below_alloc _ o1)
      have ac_R0_1 := fun o => cell_b c_R0_1 (below_alloc _ o)
      have bc_R0_1 := fun o o1 => cell_b (ac_R0_1 o) (below_alloc _ o1)
      have ac_R1_1 := fun o => cell_b c_R1_1 (below_alloc _ o)
      have bc_R1_1 := fun o o1 => cell_b (ac_R1_1 o) (below_alloc _ o1)
      have af_R0_1 := fun o => frz_b (cell_lt c_R0_1) f_R0_1 (below_alloc _ o)
      have bf_R0_1 := fun o o1 => frz_b (cell_lt (ac_R0_1 o)) (af_R0_1 o) (below_alloc _ o1)
      have af_R1_1 := fun o => frz_b (cell_lt c_R1_1) f_R1_1 (below_alloc _ o)
      have bf_R1_1 := fun o o1 => frz_b (cell_lt (ac_R1_1 o)) (af_R1_1 o) (below_alloc _ o1)
      clear hb D1 T0
      go_wp2_with fail
      refine (same_b (S_l1Thread _ t)).mono ?_
      rintro e w2 ⟨rfl, hb⟩
      have D2 : Below w1.heap.size w1 w2 := hb
      have c_A0_2 := cell_b c_A0_1 D2
      have c_A1_2 := cell_b c_A1_1 D2
      have c_R0_2 := cell_b c_R0_1 D2
      have c_R1_2 := cell_b c_R1_1 D2
      have f_R0_2 := (D2.frozen (p := ⟨w.heap.size + 1, 0, none⟩) (World.block_lt_of_cell? _ _ c_R0_1)).trans f_R0_1
      have f_R1_2 := (D2.frozen (p := ⟨w.heap.size + 1, 1, none⟩) (World.block_lt_of_cell? _ _ c_R1_1)).trans f_R1_1
      have T2 := Lib.hid (below_trans T1.out D2)
      have z2 : w1.heap.size ≤ w2.heap.size := (by have := hb.size; (try simp at this); omega)
      have ac_A0_2 := fun o => cell_b c_A0_2 (below_alloc _ o)
      have bc_A0_2 := fun o o1 => cell_b (ac_A0_2 o) (below_alloc _ o1)
      have ac_A1_2 := fun o => cell_b c_A1_2 (below_alloc _ o)
      have bc_A1_2 := fun o o1 => cell_b (ac_A1_2 o) (below_alloc _ o1)
      have ac_R0_2 := fun o => cell_b c_R0_2 (below_alloc _ o)
      have bc_R0_2 := fun o o1 => cell_b (ac_R0_2 o) (below_alloc _ o1)
      have ac_R1_2 := fun o => cell_b c_R1_2 (below_alloc _ o)
      have bc_R1_2 := fun o o1 => cell_b (ac_R1_2 o) (below_alloc _ o1)
      have af_R0_2 := fun o => frz_b (cell_lt c_R0_2) f_R0_2 (below_alloc _ o)
      have bf_R0_2 := fun o o1 => frz_b (cell_lt (ac_R0_2 o)) (af_R0_2 o) (below_alloc _ o1)
      have af_R1_2 := fun o => frz_b (cell_lt c_R1_2) f_R1_2 (below_alloc _ o)
      have bf_R1_2 := fun o o1 => frz_b (cell_lt (ac_R1_2 o)) (af_R1_2 o) (below_alloc _ o1)
      clear ac_A0_1 bc_A0_1 ac_A1_1 bc_A1_1 ac_R0_1 bc_R0_1 ac_R1_1 bc_R1_1 af_R0_1 bf_R0_1 af_R1_1 bf_R1_1 c_A0_1 c_A1_1 c_R0_1 c_R1_1 f_R0_1 f_R1_1 hb D2 T1
      go_wp2_with fail
      refine bodyPost_ret (v := .tuple #[.agg #[.int .i64 0, .slice none 0 0], .bool false, .bool false]) (by simp [results, Try.results19, go_sem, c_R0_2, c_R1_2]) rfl ⟨_, _, rfl, ow_nil _ _, ((T2.out).setCell (by simp) _).setCell (by simp) _⟩
  · have hv' : gval c xs = false := by simpa using hv
    clear hv
    have e0 : wg c xs t = (0, [], false, false) := by simp [wg, hv']
    simp only [e0]
    clear e0
    go_enter Try.func19, Try.ntmps19
    have T0 := Lib.hid (Below.refl w.heap.size w)
    go_wp2_with fail
    refine (S_GroupValid _ c _ xs (rd_alloc (rd_alloc (rd_below HR.out T0.out) _) _) (by first | omega | simp)).mono ?_
    rintro e w1 ⟨rfl, hb⟩
    have D1 : Below w.heap.size w w1 := below_trans (below_alloc _ _) (below_trans (below_alloc _ _) (hb))
    have T1 := Lib.hid (below_trans T0.out D1)
    have z1 : w.heap.size + 2 ≤ w1.heap.size := (by have := hb.size; (try simp at this); omega)
    have c_A0_1 := cell_b (p := ⟨w.heap.size, 0, none⟩) (v := .int .i64 c) (by simp) hb
    have c_A1_1 := cell_b (p := ⟨w.heap.size, 1, none⟩) (v := .slice a xs.length cap) (by simp) hb
    have c_R0_1 := cell_b (p := ⟨w.heap.size + 1, 0, none⟩) (v := .int .i64 0) (by simp) hb
    have f_R0_1 : w1.frozen? ⟨w.heap.size + 1, 0, none⟩ = false := (hb.frozen (p := ⟨w.heap.size + 1, 0, none⟩) (by simp; try omega)).trans (by simp)
    have c_R1_1 := cell_b (p := ⟨w.heap.size + 1, 1, none⟩) (v := .slice none 0 0) (by simp) hb
    have f_R1_1 : w1.frozen? ⟨w.heap.size + 1, 1, none⟩ = false := (hb.frozen (p := ⟨w.heap.size + 1, 1, none⟩) (by simp; try omega)).trans (by simp)
    have ac_A0_1 := fun o => cell_b c_A0_1 (below_alloc _ o)
    have bc_A0_1 := fun o o1 => cell_b (ac_A0_1 o) (below_alloc _ o1)
    have ac_A1_1 := fun o => cell_b c_A1_1 (below_alloc _ o)
    have bc_A1_1 := fun o o1 => cell_b (ac_A1_1 o) (below_alloc _ o1)
    have ac_R0_1 := fun o => cell_b c_R0_1 (below_alloc _ o)
    have bc_R0_1 := fun o o1 => cell_b (ac_R0_1 o) (below_alloc _ o1)
    have ac_R1_1 := fun o => cell_b c_R1_1 (below_alloc _ o)
    have bc_R1_1 := fun o o1 => cell_b (ac_R1_1 o) (below_alloc _ o1)
    have af_R0_1 := fun o => frz_b (cell_lt c_R0_1) f_R0_1 (below_alloc _ o)
    have bf_R0_1 := fun o o1 => frz_b (cell_lt (ac_R0_1 o)) (af_R0_1 o) (below_alloc _ o1)
    have af_R1_1 := fun o => frz_b (cell_lt c_R1_1) f_R1_1 (below_alloc _ o)
    have bf_R1_1 := fun o o1 => frz_b (cell_lt (ac_R1_1 o)) (af_R1_1 o) (below_alloc _ o1)
    clear hb D1 T0
    go_wp2_with fail
    refine bodyPost_ret (v := .tuple #[.agg #[.int .i64 0, .slice none 0 0], .bool false, .bool false]) (by simp [results, Try.results19, go_sem, c_R0_1, c_R1_1]) rfl ⟨_, _, rfl, ow_nil _ _, ((T1.out).setCell (by simp) _).setCell (by simp) _⟩
end Go.Proofs.Ytgdhbhgkfcgjdaa
