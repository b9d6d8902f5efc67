/- Contracts of Arrive. -/
import Derived.Test.YtkglngcopflgeaaBarrier
namespace Go.Proofs.Ytkglngcopflgeaa
open Go.RowKit

/-- What Arrive hands back: parties, round, waits, who is told, ok. -/
def arr (p r : Int) (xs : List Int) (t : Int) : Int × Int × List Int × List Int × Bool :=
  if (bval p r xs && thr t && !hasB xs t) = true then
    (if (xs.length : Int) + 1 < p then (p, r, xs ++ [t], [], true) else if r + 1 ≤ 9999 then (p, r + 1, [], xs ++ [t], true) else (0, 0, [], [], false))
  else (0, 0, [], [], false)
theorem arr_len1 (p r : Int) (xs : List Int) (t : Int) : (arr p r xs t).2.2.1.length ≤ xs.length + 1 := by unfold arr; split <;> (try split) <;> (try split) <;> simp
theorem arr_len2 (p r : Int) (xs : List Int) (t : Int) : (arr p r xs t).2.2.2.1.length ≤ xs.length + 1 := by unfold arr; split <;> (try split) <;> (try split) <;> simp

set_option maxHeartbeats 2000000 in
set_option maxRecDepth 100000 in
theorem I_Arrive (w : World) (p r : Int) (v : Value) (xs : List Int) (t : Int) (hr : Rd w v xs) (hl : xs.length ≤ 4294967296) :
    Calls Try.prog 16 #[.agg #[.int .i64 p, .int .i64 r, v], .int .i64 t] w fun e w' => ∃ a cap b cap', e = .returned (.tuple #[.agg #[.int .i64 (arr p r xs t).1, .int .i64 (arr p r xs t).2.1, .slice a (arr p r xs t).2.2.1.length cap], .slice b (arr p r xs t).2.2.2.1.length cap', .bool (arr p r xs t).2.2.2.2]) ∧
      Ow w' w.heap.size (.slice a (arr p r xs t).2.2.1.length cap) (arr p r xs t).2.2.1 ∧ Ow w' w.heap.size (.slice b (arr p r xs t).2.2.2.1.length cap') (arr p r xs t).2.2.2.1 ∧
      NE (.slice a (arr p r xs t).2.2.1.length cap) (.slice b (arr p r xs t).2.2.2.1.length cap') ∧ Below w.heap.size w w' := by
  obtain ⟨i0, hi, hz0, hz1, hz2⟩ := info_parts info3
  have HR := Lib.hid hr
  obtain ⟨a, cap, rfl, hcap, hnc, hr⟩ := hr
  by_cases hv : bval p r xs = true
  · have hbi := bval_in hv
    obtain ⟨h1, h2, h3, h4, h5, hd⟩ := hbi
    have hl6 : xs.length ≤ 6 := by omega
    by_cases ht : thr t = true
    · by_cases hh : hasB xs t = true
      · have harr : arr p r xs t = (0, 0, [], [], false) := by unfold arr; rw [hv, ht, hh]; rfl
        have hat := hasB_at xs t
        rw [hh] at hat
        simp only [harr]
        clear harr hd
        clear hr hnc
        go_enter Try.func16, Try.ntmps16
        have T0 := Lib.hid (Below.refl w.heap.size w)
        go_wp2_with fail
        refine (I_BarrierValid _ p r _ xs (rd_alloc (rd_alloc (rd_below HR.out T0.out) _) _) (by omega)).mono ?_
        rintro e w1 ⟨rfl, hb⟩
        have D1 : Below w.heap.size w w1 := below_trans (below_alloc _ _) (below_trans (below_alloc _ _) (hb))
        have T1 := Lib.hid (below_trans T0.out D1)
        have z1 : w.heap.size + 2 ≤ w1.heap.size := (by have := hb.size; (try simp at this); omega)
        have c_A0_1 := cell_b (p := ⟨w.heap.size, 0, none⟩) (v := .int .i64 p) (by simp) hb
        have c_A1_1 := cell_b (p := ⟨w.heap.size, 1, none⟩) (v := .int .i64 r) (by simp) hb
        have c_A2_1 := cell_b (p := ⟨w.heap.size, 2, none⟩) (v := .slice a xs.length cap) (by simp) hb
        have c_R0_1 := cell_b (p := ⟨w.heap.size + 1, 0, none⟩) (v := .int .i64 0) (by simp) hb
        have f_R0_1 : w1.frozen? ⟨w.heap.size + 1, 0, none⟩ = false := (hb.frozen (p := ⟨w.heap.size + 1, 0, none⟩) (by simp; try omega)).trans (by simp)
        have c_R1_1 := cell_b (p := ⟨w.heap.size + 1, 1, none⟩) (v := .int .i64 0) (by simp) hb
        have f_R1_1 : w1.frozen? ⟨w.heap.size + 1, 1, none⟩ = false := (hb.frozen (p := ⟨w.heap.size + 1, 1, none⟩) (by simp; try omega)).trans (by simp)
        have c_R2_1 := cell_b (p := ⟨w.heap.size + 1, 2, none⟩) (v := .slice none 0 0) (by simp) hb
        have f_R2_1 : w1.frozen? ⟨w.heap.size + 1, 2, none⟩ = false := (hb.frozen (p := ⟨w.heap.size + 1, 2, none⟩) (by simp; try omega)).trans (by simp)
        have ac_A0_1 := fun o => cell_b c_A0_1 (below_alloc _ o)
        have bc_A0_1 := fun o o1 => cell_b (ac_A0_1 o) (below_alloc _ o1)
        have dc_A0_1 := fun o o1 o2 => cell_b (bc_A0_1 o o1) (below_alloc _ o2)
        have ac_A1_1 := fun o => cell_b c_A1_1 (below_alloc _ o)
        have bc_A1_1 := fun o o1 => cell_b (ac_A1_1 o) (below_alloc _ o1)
        have dc_A1_1 := fun o o1 o2 => cell_b (bc_A1_1 o o1) (below_alloc _ o2)
        have ac_A2_1 := fun o => cell_b c_A2_1 (below_alloc _ o)
        have bc_A2_1 := fun o o1 => cell_b (ac_A2_1 o) (below_alloc _ o1)
        have dc_A2_1 := fun o o1 o2 => cell_b (bc_A2_1 o o1) (below_alloc _ o2)
        have ac_R0_1 := fun o => cell_b c_R0_1 (below_alloc _ o)
        have bc_R0_1 := fun o o1 => cell_b (ac_R0_1 o) (below_alloc _ o1)
        have dc_R0_1 := fun o o1 o2 => cell_b (bc_R0_1 o o1) (below_alloc _ o2)
        have ac_R1_1 := fun o => cell_b c_R1_1 (below_alloc _ o)
        have bc_R1_1 := fun o o1 => cell_b (ac_R1_1 o) (below_alloc _ o1)
        have dc_R1_1 := fun o o1 o2 => cell_b (bc_R1_1 o o1) (below_alloc _ o2)
        have ac_R2_1 := fun o => cell_b c_R2_1 (below_alloc _ o)
        have bc_R2_1 := fun o o1 => cell_b (ac_R2_1 o) (below_alloc _ o1)
        have dc_R2_1 := fun o o1 o2 => cell_b (bc_R2_1 o o1) (below_alloc _ o2)
        have af_R0_1 := fun o => frz_b (cell_lt c_R0_1) f_R0_1 (below_alloc _ o)
        have bf_R0_1 := fun o o1 => frz_b (cell_lt (ac_R0_1 o)) (af_R0_1 o) (below_alloc _ o1)
        have df_R0_1 := fun o o1 o2 => frz_b (cell_lt (bc_R0_1 o o1)) (bf_R0_1 o o1) (below_alloc _ o2)
        have af_R1_1 := fun o => frz_b (cell_lt c_R1_1) f_R1_1 (below_alloc _ o)
        have bf_R1_1 := fun o o1 => frz_b (cell_lt (ac_R1_1 o)) (af_R1_1 o) (below_alloc _ o1)
        have df_R1_1 := fun o o1 o2 => frz_b (cell_lt (bc_R1_1 o o1)) (bf_R1_1 o o1) (below_alloc _ o2)
        have af_R2_1 := fun o => frz_b (cell_lt c_R2_1) f_R2_1 (below_alloc _ o)
        have bf_R2_1 := fun o o1 => frz_b (cell_lt (ac_R2_1 o)) (af_R2_1 o) (below_alloc _ o1)
        have df_R2_1 := fun o o1 o2 => frz_b (cell_lt (bc_R2_1 o o1)) (bf_R2_1 o o1) (below_alloc _ o2)
        clear hb D1 T0
        go_wp2_with fail
        refine (same_b (I_isThread _ t)).mono ?_
        rintro e w2 ⟨rfl, hb⟩
        have D2 : Below w1.heap.size w1 w2 := hb
        have c_A0_2 := cell_b c_A0_1 D2
        have c_A1_2 := cell_b c_A1_1 D2
        have c_A2_2 := cell_b c_A2_1 D2
        have c_R0_2 := cell_b c_R0_1 D2
        have c_R1_2 := cell_b c_R1_1 D2
        have c_R2_2 := cell_b c_R2_1 D2
        have f_R0_2 := (D2.frozen (p := ⟨w.heap.size + 1, 0, none⟩) (World.block_lt_of_cell? _ _ c_R0_1)).trans f_R0_1
        have f_R1_2 := (D2.frozen (p := ⟨w.heap.size + 1, 1, none⟩) (World.block_lt_of_cell? _ _ c_R1_1)).trans f_R1_1
        have f_R2_2 := (D2.frozen (p := ⟨w.heap.size + 1, 2, none⟩) (World.block_lt_of_cell? _ _ c_R2_1)).trans f_R2_1
        have T2 := Lib.hid (below_trans T1.out D2)
        have z2 : w1.heap.size ≤ w2.heap.size := (by have := hb.size; (try simp at this); omega)
        have ac_A0_2 := fun o => cell_b c_A0_2 (below_alloc _ o)
        have bc_A0_2 := fun o o1 => cell_b (ac_A0_2 o) (below_alloc _ o1)
        have dc_A0_2 := fun o o1 o2 => cell_b (bc_A0_2 o o1) (below_alloc _ o2)
        have ac_A1_2 := fun o => cell_b c_A1_2 (below_alloc _ o)
        have bc_A1_2 := fun o o1 => cell_b (ac_A1_2 o) (below_alloc _ o1)
        have dc_A1_2 := fun o o1 o2 => cell_b (bc_A1_2 o o1) (below_alloc _ o2)
        have ac_A2_2 := fun o => cell_b c_A2_2 (below_alloc _ o)
        have bc_A2_2 := fun o o1 => cell_b (ac_A2_2 o) (below_alloc _ o1)
        have dc_A2_2 := fun o o1 o2 => cell_b (bc_A2_2 o o1) (below_alloc _ o2)
        have ac_R0_2 := fun o => cell_b c_R0_2 (below_alloc _ o)
        have bc_R0_2 := fun o o1 => cell_b (ac_R0_2 o) (below_alloc _ o1)
        have dc_R0_2 := fun o o1 o2 => cell_b (bc_R0_2 o o1) (below_alloc _ o2)
        have ac_R1_2 := fun o => cell_b c_R1_2 (below_alloc _ o)
        have bc_R1_2 := fun o o1 => cell_b (ac_R1_2 o) (below_alloc _ o1)
        have dc_R1_2 := fun o o1 o2 => cell_b (bc_R1_2 o o1) (below_alloc _ o2)
        have ac_R2_2 := fun o => cell_b c_R2_2 (below_alloc _ o)
        have bc_R2_2 := fun o o1 => cell_b (ac_R2_2 o) (below_alloc _ o1)
        have dc_R2_2 := fun o o1 o2 => cell_b (bc_R2_2 o o1) (below_alloc _ o2)
        have af_R0_2 := fun o => frz_b (cell_lt c_R0_2) f_R0_2 (below_alloc _ o)
        have bf_R0_2 := fun o o1 => frz_b (cell_lt (ac_R0_2 o)) (af_R0_2 o) (below_alloc _ o1)
        have df_R0_2 := fun o o1 o2 => frz_b (cell_lt (bc_R0_2 o o1)) (bf_R0_2 o o1) (below_alloc _ o2)
        have af_R1_2 := fun o => frz_b (cell_lt c_R1_2) f_R1_2 (below_alloc _ o)
        have bf_R1_2 := fun o o1 => frz_b (cell_lt (ac_R1_2 o)) (af_R1_2 o) (below_alloc _ o1)
        have df_R1_2 := fun o o1 o2 => frz_b (cell_lt (bc_R1_2 o o1)) (bf_R1_2 o o1) (below_alloc _ o2)
        have af_R2_2 := fun o => frz_b (cell_lt c_R2_2) f_R2_2 (below_alloc _ o)
        have bf_R2_2 := fun o o1 => frz_b (cell_lt (ac_R2_2 o)) (af_R2_2 o) (below_alloc _ o1)
        have df_R2_2 := fun o o1 o2 => frz_b (cell_lt (bc_R2_2 o o1)) (bf_R2_2 o o1) (below_alloc _ o2)
        clear ac_A0_1 bc_A0_1 dc_A0_1 ac_A1_1 bc_A1_1 dc_A1_1 ac_A2_1 bc_A2_1 dc_A2_1 ac_R0_1 bc_R0_1 dc_R0_1 ac_R1_1 bc_R1_1 dc_R1_1 ac_R2_1 bc_R2_1 dc_R2_1 af_R0_1 bf_R0_1 df_R0_1 af_R1_1 bf_R1_1 df_R1_1 af_R2_1 bf_R2_1 df_R2_1 c_A0_1 c_A1_1 c_A2_1 c_R0_1 c_R1_1 c_R2_1 f_R0_1 f_R1_1 f_R2_1 hb D2 T1
        go_wp2_with fail
        refine (same_b (slices_Contains _ _ xs t (rd_below HR.out T2.out) (by omega))).mono ?_
        rintro e w3 ⟨rfl, hb⟩
        have D3 : Below w2.heap.size w2 w3 := hb
        have c_A0_3 := cell_b c_A0_2 D3
        have c_A1_3 := cell_b c_A1_2 D3
        have c_A2_3 := cell_b c_A2_2 D3
        have c_R0_3 := cell_b c_R0_2 D3
        have c_R1_3 := cell_b c_R1_2 D3
        have c_R2_3 := cell_b c_R2_2 D3
        have f_R0_3 := (D3.frozen (p := ⟨w.heap.size + 1, 0, none⟩) (World.block_lt_of_cell? _ _ c_R0_2)).trans f_R0_2
        have f_R1_3 := (D3.frozen (p := ⟨w.heap.size + 1, 1, none⟩) (World.block_lt_of_cell? _ _ c_R1_2)).trans f_R1_2
        have f_R2_3 := (D3.frozen (p := ⟨w.heap.size + 1, 2, none⟩) (World.block_lt_of_cell? _ _ c_R2_2)).trans f_R2_2
        have T3 := Lib.hid (below_trans T2.out D3)
        have z3 : w2.heap.size ≤ w3.heap.size := (by have := hb.size; (try simp at this); omega)
        have ac_A0_3 := fun o => cell_b c_A0_3 (below_alloc _ o)
        have bc_A0_3 := fun o o1 => cell_b (ac_A0_3 o) (below_alloc _ o1)
        have dc_A0_3 := fun o o1 o2 => cell_b (bc_A0_3 o o1) (below_alloc _ o2)
        have ac_A1_3 := fun o => cell_b c_A1_3 (below_alloc _ o)
        have bc_A1_3 := fun o o1 => cell_b (ac_A1_3 o) (below_alloc _ o1)
        have dc_A1_3 := fun o o1 o2 => cell_b (bc_A1_3 o o1) (below_alloc _ o2)
        have ac_A2_3 := fun o => cell_b c_A2_3 (below_alloc _ o)
        have bc_A2_3 := fun o o1 => cell_b (ac_A2_3 o) (below_alloc _ o1)
        have dc_A2_3 := fun o o1 o2 => cell_b (bc_A2_3 o o1) (below_alloc _ o2)
        have ac_R0_3 := fun o => cell_b c_R0_3 (below_alloc _ o)
        have bc_R0_3 := fun o o1 => cell_b (ac_R0_3 o) (below_alloc _ o1)
        have dc_R0_3 := fun o o1 o2 => cell_b (bc_R0_3 o o1) (below_alloc _ o2)
        have ac_R1_3 := fun o => cell_b c_R1_3 (below_alloc _ o)
        have bc_R1_3 := fun o o1 => cell_b (ac_R1_3 o) (below_alloc _ o1)
        have dc_R1_3 := fun o o1 o2 => cell_b (bc_R1_3 o o1) (below_alloc _ o2)
        have ac_R2_3 := fun o => cell_b c_R2_3 (below_alloc _ o)
        have bc_R2_3 := fun o o1 => cell_b (ac_R2_3 o) (below_alloc _ o1)
        have dc_R2_3 := fun o o1 o2 => cell_b (bc_R2_3 o o1) (below_alloc _ o2)
        have af_R0_3 := fun o => frz_b (cell_lt c_R0_3) f_R0_3 (below_alloc _ o)
        have bf_R0_3 := fun o o1 => frz_b (cell_lt (ac_R0_3 o)) (af_R0_3 o) (below_alloc _ o1)
        have df_R0_3 := fun o o1 o2 => frz_b (cell_lt (bc_R0_3 o o1)) (bf_R0_3 o o1) (below_alloc _ o2)
        have af_R1_3 := fun o => frz_b (cell_lt c_R1_3) f_R1_3 (below_alloc _ o)
        have bf_R1_3 := fun o o1 => frz_b (cell_lt (ac_R1_3 o)) (af_R1_3 o) (below_alloc _ o1)
        have df_R1_3 := fun o o1 o2 => frz_b (cell_lt (bc_R1_3 o o1)) (bf_R1_3 o o1) (below_alloc _ o2)
        have af_R2_3 := fun o => frz_b (cell_lt c_R2_3) f_R2_3 (below_alloc _ o)
        have bf_R2_3 := fun o o1 => frz_b (cell_lt (ac_R2_3 o)) (af_R2_3 o) (below_alloc _ o1)
        have df_R2_3 := fun o o1 o2 => frz_b (cell_lt (bc_R2_3 o o1)) (bf_R2_3 o o1) (below_alloc _ o2)
        clear ac_A0_2 bc_A0_2 dc_A0_2 ac_A1_2 bc_A1_2 dc_A1_2 ac_A2_2 bc_A2_2 dc_A2_2 ac_R0_2 bc_R0_2 dc_R0_2 ac_R1_2 bc_R1_2 dc_R1_2 ac_R2_2 bc_R2_2 dc_R2_2 af_R0_2 bf_R0_2 df_R0_2 af_R1_2 bf_R1_2 df_R1_2 af_R2_2 bf_R2_2 df_R2_2 c_A0_2 c_A1_2 c_A2_2 c_R0_2 c_R1_2 c_R2_2 f_R0_2 f_R1_2 f_R2_2 hb D3 T2
        go_wp2_with fail
        refine bodyPost_ret (v := .tuple #[.agg #[.int .i64 0, .int .i64 0, .slice none 0 0], .slice none 0 0, .bool false]) (by simp [results, Try.results16, go_sem, c_R0_3, c_R1_3, c_R2_3]) rfl ⟨_, _, _, _, rfl, ow_nil _ _, ow_nil _ _, ne_nil _ _ _, (((T3.out).setCell (by simp) _).setCell (by simp) _).setCell (by simp) _⟩
      · have hh' : hasB xs t = false := by simpa using hh
        have hat := hasB_at xs t
        rw [hh'] at hat
        clear hh hd
        by_cases hp : (xs.length : Int) + 1 < p
        · have harr : arr p r xs t = (p, r, xs ++ [t], [], true) := by unfold arr; rw [hv, ht, hh']; rw [if_pos (by rfl), if_pos hp]
          simp only [harr, List.length_append]
          clear harr
          clear hr hnc
          go_enter Try.func16, Try.ntmps16
          have T0 := Lib.hid (Below.refl w.heap.size w)
          go_wp2_with fail
          refine (I_BarrierValid _ p r _ xs (rd_alloc (rd_alloc (rd_below HR.out T0.out) _) _) (by omega)).mono ?_
          rintro e w1 ⟨rfl, hb⟩
          have D1 : Below w.heap.size w w1 := below_trans (below_alloc _ _) (below_trans (below_alloc _ _) (hb))
          have T1 := Lib.hid (below_trans T0.out D1)
          have z1 : w.heap.size + 2 ≤ w1.heap.size := (by have := hb.size; (try simp at this); omega)
          have c_A0_1 := cell_b (p := ⟨w.heap.size, 0, none⟩) (v := .int .i64 p) (by simp) hb
          have c_A1_1 := cell_b (p := ⟨w.heap.size, 1, none⟩) (v := .int .i64 r) (by simp) hb
          have c_A2_1 := cell_b (p := ⟨w.heap.size, 2, none⟩) (v := .slice a xs.length cap) (by simp) hb
          have c_R0_1 := cell_b (p := ⟨w.heap.size + 1, 0, none⟩) (v := .int .i64 0) (by simp) hb
          have f_R0_1 : w1.frozen? ⟨w.heap.size + 1, 0, none⟩ = false := (hb.frozen (p := ⟨w.heap.size + 1, 0, none⟩) (by simp; try omega)).trans (by simp)
          have c_R1_1 := cell_b (p := ⟨w.heap.size + 1, 1, none⟩) (v := .int .i64 0) (by simp) hb
          have f_R1_1 : w1.frozen? ⟨w.heap.size + 1, 1, none⟩ = false := (hb.frozen (p := ⟨w.heap.size + 1, 1, none⟩) (by simp; try omega)).trans (by simp)
          have c_R2_1 := cell_b (p := ⟨w.heap.size + 1, 2, none⟩) (v := .slice none 0 0) (by simp) hb
          have f_R2_1 : w1.frozen? ⟨w.heap.size + 1, 2, none⟩ = false := (hb.frozen (p := ⟨w.heap.size + 1, 2, none⟩) (by simp; try omega)).trans (by simp)
          have ac_A0_1 := fun o => cell_b c_A0_1 (below_alloc _ o)
          have bc_A0_1 := fun o o1 => cell_b (ac_A0_1 o) (below_alloc _ o1)
          have dc_A0_1 := fun o o1 o2 => cell_b (bc_A0_1 o o1) (below_alloc _ o2)
          have ac_A1_1 := fun o => cell_b c_A1_1 (below_alloc _ o)
          have bc_A1_1 := fun o o1 => cell_b (ac_A1_1 o) (below_alloc _ o1)
          have dc_A1_1 := fun o o1 o2 => cell_b (bc_A1_1 o o1) (below_alloc _ o2)
          have ac_A2_1 := fun o => cell_b c_A2_1 (below_alloc _ o)
          have bc_A2_1 := fun o o1 => cell_b (ac_A2_1 o) (below_alloc _ o1)
          have dc_A2_1 := fun o o1 o2 => cell_b (bc_A2_1 o o1) (below_alloc _ o2)
          have ac_R0_1 := fun o => cell_b c_R0_1 (below_alloc _ o)
          have bc_R0_1 := fun o o1 => cell_b (ac_R0_1 o) (below_alloc _ o1)
          have dc_R0_1 := fun o o1 o2 => cell_b (bc_R0_1 o o1) (below_alloc _ o2)
          have ac_R1_1 := fun o => cell_b c_R1_1 (below_alloc _ o)
          have bc_R1_1 := fun o o1 => cell_b (ac_R1_1 o) (below_alloc _ o1)
          have dc_R1_1 := fun o o1 o2 => cell_b (bc_R1_1 o o1) (below_alloc _ o2)
          have ac_R2_1 := fun o => cell_b c_R2_1 (below_alloc _ o)
          have bc_R2_1 := fun o o1 => cell_b (ac_R2_1 o) (below_alloc _ o1)
          have dc_R2_1 := fun o o1 o2 => cell_b (bc_R2_1 o o1) (below_alloc _ o2)
          have af_R0_1 := fun o => frz_b (cell_lt c_R0_1) f_R0_1 (below_alloc _ o)
          have bf_R0_1 := fun o o1 => frz_b (cell_lt (ac_R0_1 o)) (af_R0_1 o) (below_alloc _ o1)
          have df_R0_1 := fun o o1 o2 => frz_b (cell_lt (bc_R0_1 o o1)) (bf_R0_1 o o1) (below_alloc _ o2)
          have af_R1_1 := fun o => frz_b (cell_lt c_R1_1) f_R1_1 (below_alloc _ o)
          have bf_R1_1 := fun o o1 => frz_b (cell_lt (ac_R1_1 o)) (af_R1_1 o) (below_alloc _ o1)
          have df_R1_1 := fun o o1 o2 => frz_b (cell_lt (bc_R1_1 o o1)) (bf_R1_1 o o1) (below_alloc _ o2)
          have af_R2_1 := fun o => frz_b (cell_lt c_R2_1) f_R2_1 (below_alloc _ o)
          have bf_R2_1 := fun o o1 => frz_b (cell_lt (ac_R2_1 o)) (af_R2_1 o) (below_alloc _ o1)
          have df_R2_1 := fun o o1 o2 => frz_b (cell_lt (bc_R2_1 o o1)) (bf_R2_1 o o1) (below_alloc _ o2)
          clear hb D1 T0
          go_wp2_with fail
          refine (same_b (I_isThread _ t)).mono ?_
          rintro e w2 ⟨rfl, hb⟩
          have D2 : Below w1.heap.size w1 w2 := hb
          have c_A0_2 := cell_b c_A0_1 D2
          have c_A1_2 := cell_b c_A1_1 D2
          have c_A2_2 := cell_b c_A2_1 D2
          have c_R0_2 := cell_b c_R0_1 D2
          have c_R1_2 := cell_b c_R1_1 D2
          have c_R2_2 := cell_b c_R2_1 D2
          have f_R0_2 := (D2.frozen (p := ⟨w.heap.size + 1, 0, none⟩) (World.block_lt_of_cell? _ _ c_R0_1)).trans f_R0_1
          have f_R1_2 := (D2.frozen (p := ⟨w.heap.size + 1, 1, none⟩) (World.block_lt_of_cell? _ _ c_R1_1)).trans f_R1_1
          have f_R2_2 := (D2.frozen (p := ⟨w.heap.size + 1, 2, none⟩) (World.block_lt_of_cell? _ _ c_R2_1)).trans f_R2_1
          have T2 := Lib.hid (below_trans T1.out D2)
          have z2 : w1.heap.size ≤ w2.heap.size := (by have := hb.size; (try simp at this); omega)
          have ac_A0_2 := fun o => cell_b c_A0_2 (below_alloc _ o)
          have bc_A0_2 := fun o o1 => cell_b (ac_A0_2 o) (below_alloc _ o1)
          have dc_A0_2 := fun o o1 o2 => cell_b (bc_A0_2 o o1) (below_alloc _ o2)
          have ac_A1_2 := fun o => cell_b c_A1_2 (below_alloc _ o)
          have bc_A1_2 := fun o o1 => cell_b (ac_A1_2 o) (below_alloc _ o1)
          have dc_A1_2 := fun o o1 o2 => cell_b (bc_A1_2 o o1) (below_alloc _ o2)
          have ac_A2_2 := fun o => cell_b c_A2_2 (below_alloc _ o)
          have bc_A2_2 := fun o o1 => cell_b (ac_A2_2 o) (below_alloc _ o1)
          have dc_A2_2 := fun o o1 o2 => cell_b (bc_A2_2 o o1) (below_alloc _ o2)
          have ac_R0_2 := fun o => cell_b c_R0_2 (below_alloc _ o)
          have bc_R0_2 := fun o o1 => cell_b (ac_R0_2 o) (below_alloc _ o1)
          have dc_R0_2 := fun o o1 o2 => cell_b (bc_R0_2 o o1) (below_alloc _ o2)
          have ac_R1_2 := fun o => cell_b c_R1_2 (below_alloc _ o)
          have bc_R1_2 := fun o o1 => cell_b (ac_R1_2 o) (below_alloc _ o1)
          have dc_R1_2 := fun o o1 o2 => cell_b (bc_R1_2 o o1) (below_alloc _ o2)
          have ac_R2_2 := fun o => cell_b c_R2_2 (below_alloc _ o)
          have bc_R2_2 := fun o o1 => cell_b (ac_R2_2 o) (below_alloc _ o1)
          have dc_R2_2 := fun o o1 o2 => cell_b (bc_R2_2 o o1) (below_alloc _ o2)
          have af_R0_2 := fun o => frz_b (cell_lt c_R0_2) f_R0_2 (below_alloc _ o)
          have bf_R0_2 := fun o o1 => frz_b (cell_lt (ac_R0_2 o)) (af_R0_2 o) (below_alloc _ o1)
          have df_R0_2 := fun o o1 o2 => frz_b (cell_lt (bc_R0_2 o o1)) (bf_R0_2 o o1) (below_alloc _ o2)
          have af_R1_2 := fun o => frz_b (cell_lt c_R1_2) f_R1_2 (below_alloc _ o)
          have bf_R1_2 := fun o o1 => frz_b (cell_lt (ac_R1_2 o)) (af_R1_2 o) (below_alloc _ o1)
          have df_R1_2 := fun o o1 o2 => frz_b (cell_lt (bc_R1_2 o o1)) (bf_R1_2 o o1) (below_alloc _ o2)
          have af_R2_2 := fun o => frz_b (cell_lt c_R2_2) f_R2_2 (below_alloc _ o)
          have bf_R2_2 := fun o o1 => frz_b (cell_lt (ac_R2_2 o)) (af_R2_2 o) (below_alloc _ o1)
          have df_R2_2 := fun o o1 o2 => frz_b (cell_lt (bc_R2_2 o o1)) (bf_R2_2 o o1) (below_alloc _ o2)
          clear ac_A0_1 bc_A0_1 dc_A0_1 ac_A1_1 bc_A1_1 dc_A1_1 ac_A2_1 bc_A2_1 dc_A2_1 ac_R0_1 bc_R0_1 dc_R0_1 ac_R1_1 bc_R1_1 dc_R1_1 ac_R2_1 bc_R2_1 dc_R2_1 af_R0_1 bf_R0_1 df_R0_1 af_R1_1 bf_R1_1 df_R1_1 af_R2_1 bf_R2_1 df_R2_1 c_A0_1 c_A1_1 c_A2_1 c_R0_1 c_R1_1 c_R2_1 f_R0_1 f_R1_1 f_R2_1 hb D2 T1
          go_wp2_with fail
          refine (same_b (slices_Contains _ _ xs t (rd_below HR.out T2.out) (by omega))).mono ?_
          rintro e w3 ⟨rfl, hb⟩
          have D3 : Below w2.heap.size w2 w3 := hb
          have c_A0_3 := cell_b c_A0_2 D3
          have c_A1_3 := cell_b c_A1_2 D3
          have c_A2_3 := cell_b c_A2_2 D3
          have c_R0_3 := cell_b c_R0_2 D3
          have c_R1_3 := cell_b c_R1_2 D3
          have c_R2_3 := cell_b c_R2_2 D3
          have f_R0_3 := (D3.frozen (p := ⟨w.heap.size + 1, 0, none⟩) (World.block_lt_of_cell? _ _ c_R0_2)).trans f_R0_2
          have f_R1_3 := (D3.frozen (p := ⟨w.heap.size + 1, 1, none⟩) (World.block_lt_of_cell? _ _ c_R1_2)).trans f_R1_2
          have f_R2_3 := (D3.frozen (p := ⟨w.heap.size + 1, 2, none⟩) (World.block_lt_of_cell? _ _ c_R2_2)).trans f_R2_2
          have T3 := Lib.hid (below_trans T2.out D3)
          have z3 : w2.heap.size ≤ w3.heap.size := (by have := hb.size; (try simp at this); omega)
          have ac_A0_3 := fun o => cell_b c_A0_3 (below_alloc _ o)
          have bc_A0_3 := fun o o1 => cell_b (ac_A0_3 o) (below_alloc _ o1)
          have dc_A0_3 := fun o o1 o2 => cell_b (bc_A0_3 o o1) (below_alloc _ o2)
          have ac_A1_3 := fun o => cell_b c_A1_3 (below_alloc _ o)
          have bc_A1_3 := fun o o1 => cell_b (ac_A1_3 o) (below_alloc _ o1)
          have dc_A1_3 := fun o o1 o2 => cell_b (bc_A1_3 o o1) (below_alloc _ o2)
          have ac_A2_3 := fun o => cell_b c_A2_3 (below_alloc _ o)
          have bc_A2_3 := fun o o1 => cell_b (ac_A2_3 o) (below_alloc _ o1)
          have dc_A2_3 := fun o o1 o2 => cell_b (bc_A2_3 o o1) (below_alloc _ o2)
          have ac_R0_3 := fun o => cell_b c_R0_3 (below_alloc _ o)
          have bc_R0_3 := fun o o1 => cell_b (ac_R0_3 o) (below_alloc _ o1)
          have dc_R0_3 := fun o o1 o2 => cell_b (bc_R0_3 o o1) (below_alloc _ o2)
          have ac_R1_3 := fun o => cell_b c_R1_3 (below_alloc _ o)
          have bc_R1_3 := fun o o1 => cell_b (ac_R1_3 o) (below_alloc _ o1)
          have dc_R1_3 := fun o o1 o2 => cell_b (bc_R1_3 o o1) (below_alloc _ o2)
          have ac_R2_3 := fun o => cell_b c_R2_3 (below_alloc _ o)
          have bc_R2_3 := fun o o1 => cell_b (ac_R2_3 o) (below_alloc _ o1)
          have dc_R2_3 := fun o o1 o2 => cell_b (bc_R2_3 o o1) (below_alloc _ o2)
          have af_R0_3 := fun o => frz_b (cell_lt c_R0_3) f_R0_3 (below_alloc _ o)
          have bf_R0_3 := fun o o1 => frz_b (cell_lt (ac_R0_3 o)) (af_R0_3 o) (below_alloc _ o1)
          have df_R0_3 := fun o o1 o2 => frz_b (cell_lt (bc_R0_3 o o1)) (bf_R0_3 o o1) (below_alloc _ o2)
          have af_R1_3 := fun o => frz_b (cell_lt c_R1_3) f_R1_3 (below_alloc _ o)
          have bf_R1_3 := fun o o1 => frz_b (cell_lt (ac_R1_3 o)) (af_R1_3 o) (below_alloc _ o1)
          have df_R1_3 := fun o o1 o2 => frz_b (cell_lt (bc_R1_3 o o1)) (bf_R1_3 o o1) (below_alloc _ o2)
          have af_R2_3 := fun o => frz_b (cell_lt c_R2_3) f_R2_3 (below_alloc _ o)
          have bf_R2_3 := fun o o1 => frz_b (cell_lt (ac_R2_3 o)) (af_R2_3 o) (below_alloc _ o1)
          have df_R2_3 := fun o o1 o2 => frz_b (cell_lt (bc_R2_3 o o1)) (bf_R2_3 o o1) (below_alloc _ o2)
          clear ac_A0_2 bc_A0_2 dc_A0_2 ac_A1_2 bc_A1_2 dc_A1_2 ac_A2_2 bc_A2_2 dc_A2_2 ac_R0_2 bc_R0_2 dc_R0_2 ac_R1_2 bc_R1_2 dc_R1_2 ac_R2_2 bc_R2_2 dc_R2_2 af_R0_2 bf_R0_2 df_R0_2 af_R1_2 bf_R1_2 df_R1_2 af_R2_2 bf_R2_2 df_R2_2 c_A0_2 c_A1_2 c_A2_2 c_R0_2 c_R1_2 c_R2_2 f_R0_2 f_R1_2 f_R2_2 hb D3 T2
          go_wp2_with fail
          refine (I_cloneInts _ _ xs (rd_below HR.out T3.out) (by omega)).mono ?_
          rintro e w4 ⟨a4, cap4, rfl, hd, hb⟩
          have D4 : Below w3.heap.size w3 w4 := hb
          have c_A0_4 := cell_b c_A0_3 D4
          have c_A1_4 := cell_b c_A1_3 D4
          have c_A2_4 := cell_b c_A2_3 D4
          have c_R0_4 := cell_b c_R0_3 D4
          have c_R1_4 := cell_b c_R1_3 D4
          have c_R2_4 := cell_b c_R2_3 D4
          have f_R0_4 := (D4.frozen (p := ⟨w.heap.size + 1, 0, none⟩) (World.block_lt_of_cell? _ _ c_R0_3)).trans f_R0_3
          have f_R1_4 := (D4.frozen (p := ⟨w.heap.size + 1, 1, none⟩) (World.block_lt_of_cell? _ _ c_R1_3)).trans f_R1_3
          have f_R2_4 := (D4.frozen (p := ⟨w.heap.size + 1, 2, none⟩) (World.block_lt_of_cell? _ _ c_R2_3)).trans f_R2_3
          have T4 := Lib.hid (below_trans T3.out D4)
          have z4 : w3.heap.size ≤ w4.heap.size := (by have := hb.size; (try simp at this); omega)
          have o_d_4 := Lib.hid (own_base hd (show w3.heap.size ≤ _ by simp; try omega))
          have lo_d := Lib.hid (own_lo o_d_4.out)
          have hi_d := Lib.hid (own_hi o_d_4.out)
          have ac_A0_4 := fun o => cell_b c_A0_4 (below_alloc _ o)
          have bc_A0_4 := fun o o1 => cell_b (ac_A0_4 o) (below_alloc _ o1)
          have dc_A0_4 := fun o o1 o2 => cell_b (bc_A0_4 o o1) (below_alloc _ o2)
          have ac_A1_4 := fun o => cell_b c_A1_4 (below_alloc _ o)
          have bc_A1_4 := fun o o1 => cell_b (ac_A1_4 o) (below_alloc _ o1)
          have dc_A1_4 := fun o o1 o2 => cell_b (bc_A1_4 o o1) (below_alloc _ o2)
          have ac_A2_4 := fun o => cell_b c_A2_4 (below_alloc _ o)
          have bc_A2_4 := fun o o1 => cell_b (ac_A2_4 o) (below_alloc _ o1)
          have dc_A2_4 := fun o o1 o2 => cell_b (bc_A2_4 o o1) (below_alloc _ o2)
          have ac_R0_4 := fun o => cell_b c_R0_4 (below_alloc _ o)
          have bc_R0_4 := fun o o1 => cell_b (ac_R0_4 o) (below_alloc _ o1)
          have dc_R0_4 := fun o o1 o2 => cell_b (bc_R0_4 o o1) (below_alloc _ o2)
          have ac_R1_4 := fun o => cell_b c_R1_4 (below_alloc _ o)
          have bc_R1_4 := fun o o1 => cell_b (ac_R1_4 o) (below_alloc _ o1)
          have dc_R1_4 := fun o o1 o2 => cell_b (bc_R1_4 o o1) (below_alloc _ o2)
          have ac_R2_4 := fun o => cell_b c_R2_4 (below_alloc _ o)
          have bc_R2_4 := fun o o1 => cell_b (ac_R2_4 o) (below_alloc _ o1)
          have dc_R2_4 := fun o o1 o2 => cell_b (bc_R2_4 o o1) (below_alloc _ o2)
          have af_R0_4 := fun o => frz_b (cell_lt c_R0_4) f_R0_4 (below_alloc _ o)
          have bf_R0_4 := fun o o1 => frz_b (cell_lt (ac_R0_4 o)) (af_R0_4 o) (below_alloc _ o1)
          have df_R0_4 := fun o o1 o2 => frz_b (cell_lt (bc_R0_4 o o1)) (bf_R0_4 o o1) (below_alloc _ o2)
          have af_R1_4 := fun o => frz_b (cell_lt c_R1_4) f_R1_4 (below_alloc _ o)
          have bf_R1_4 := fun o o1 => frz_b (cell_lt (ac_R1_4 o)) (af_R1_4 o) (below_alloc _ o1)
          have df_R1_4 := fun o o1 o2 => frz_b (cell_lt (bc_R1_4 o o1)) (bf_R1_4 o o1) (below_alloc _ o2)
          have af_R2_4 := fun o => frz_b (cell_lt c_R2_4) f_R2_4 (below_alloc _ o)
          have bf_R2_4 := fun o o1 => frz_b (cell_lt (ac_R2_4 o)) (af_R2_4 o) (below_alloc _ o1)
          have df_R2_4 := fun o o1 o2 => frz_b (cell_lt (bc_R2_4 o o1)) (bf_R2_4 o o1) (below_alloc _ o2)
          clear ac_A0_3 bc_A0_3 dc_A0_3 ac_A1_3 bc_A1_3 dc_A1_3 ac_A2_3 bc_A2_3 dc_A2_3 ac_R0_3 bc_R0_3 dc_R0_3 ac_R1_3 bc_R1_3 dc_R1_3 ac_R2_3 bc_R2_3 dc_R2_3 af_R0_3 bf_R0_3 df_R0_3 af_R1_3 bf_R1_3 df_R1_3 af_R2_3 bf_R2_3 df_R2_3 c_A0_3 c_A1_3 c_A2_3 c_R0_3 c_R1_3 c_R2_3 f_R0_3 f_R1_3 f_R2_3 hb D4 hd T3
          have tok5 : True := trivial
          go_wp2_with (first | (at_builtin; have _t := tok5; refine wpList_append_own _ rfl _ _ 24 rfl (w3.heap.size) 3 i0 (.int .i64 0) 1 8 Try.underlying24 hi hz0 hz1 hz2 rfl (by decide) (.slice a4 xs.length cap4) (xs.length) (ints (xs)) rfl (own_below (o_d_4.out) (below_alloc _ _)) ⟨w4.heap.size, 0, none⟩ 1 1 [.int .i64 (t)] rfl rfl (cell_one_new _ _ _) (ints_oneCell .i64 [t]) (by unfold maxLen; omega) (by omega) (by simp; try omega) ?_; intro v5 w5 hown hgrow _; clear tok5; have ho : w5.ownsRow (w3.heap.size) 3 1 v5 (xs.length + 1) (ints (xs ++ [t])) := (by rw [ints_append]; exact hown); obtain ⟨a5, cap5, hv⟩ := own_shape ho; subst hv; have c_A0_5 := cell_gr (cell_b c_A0_4 (below_alloc _ _)) hgrow (fun g h => by have h1 := lo_d.out g h; have h2 := hi_d.out g h; show w.heap.size ≠ g; omega); have c_A1_5 := cell_gr (cell_b c_A1_4 (below_alloc _ _)) hgrow (fun g h => by have h1 := lo_d.out g h; have h2 := hi_d.out g h; show w.heap.size ≠ g; omega); have c_A2_5 := cell_gr (cell_b c_A2_4 (below_alloc _ _)) hgrow (fun g h => by have h1 := lo_d.out g h; have h2 := hi_d.out g h; show w.heap.size ≠ g; omega); have c_R0_5 := cell_gr (cell_b c_R0_4 (below_alloc _ _)) hgrow (fun g h => by have h1 := lo_d.out g h; have h2 := hi_d.out g h; show w.heap.size + 1 ≠ g; omega); have c_R1_5 := cell_gr (cell_b c_R1_4 (below_alloc _ _)) hgrow (fun g h => by have h1 := lo_d.out g h; have h2 := hi_d.out g h; show w.heap.size + 1 ≠ g; omega); have c_R2_5 := cell_gr (cell_b c_R2_4 (below_alloc _ _)) hgrow (fun g h => by have h1 := lo_d.out g h; have h2 := hi_d.out g h; show w.heap.size + 1 ≠ g; omega); have f_R0_5 := (frz_gr (p := ⟨w.heap.size + 1, 0, none⟩) (cell_lt (cell_b c_R0_4 (below_alloc _ _))) hgrow (fun g h => by have h1 := lo_d.out g h; have h2 := hi_d.out g h; show w.heap.size + 1 ≠ g; omega)).trans (frz_b (cell_lt c_R0_4) f_R0_4 (below_alloc _ _)); have f_R1_5 := (frz_gr (p := ⟨w.heap.size + 1, 1, none⟩) (cell_lt (cell_b c_R1_4 (below_alloc _ _))) hgrow (fun g h => by have h1 := lo_d.out g h; have h2 := hi_d.out g h; show w.heap.size + 1 ≠ g; omega)).trans (frz_b (cell_lt c_R1_4) f_R1_4 (below_alloc _ _)); have f_R2_5 := (frz_gr (p := ⟨w.heap.size + 1, 2, none⟩) (cell_lt (cell_b c_R2_4 (below_alloc _ _))) hgrow (fun g h => by have h1 := lo_d.out g h; have h2 := hi_d.out g h; show w.heap.size + 1 ≠ g; omega)).trans (frz_b (cell_lt c_R2_4) f_R2_4 (below_alloc _ _)); have z5 : w4.heap.size + 1 ≤ w5.heap.size := (by have := hgrow.size; (try simp at this); omega); have T5 := Lib.hid (below_gr (T4.out.trans ((below_alloc _ _ : Below w4.heap.size w4 _).mono T4.out.size)) (by have := T4.out.size; simp; try omega) hgrow (fun g h => by have h9 := T4.out.size; have h1 := lo_d.out g h; have h2 := hi_d.out g h; omega)); have o_e_5 := Lib.hid ho; have lo_e := Lib.hid (own_lo o_e_5.out); have hi_e := Lib.hid (own_hi o_e_5.out); have ac_A0_5 := fun o => cell_b c_A0_5 (below_alloc _ o); have bc_A0_5 := fun o o1 => cell_b (ac_A0_5 o) (below_alloc _ o1); have dc_A0_5 := fun o o1 o2 => cell_b (bc_A0_5 o o1) (below_alloc _ o2); have ac_A1_5 := fun o => cell_b c_A1_5 (below_alloc _ o); have bc_A1_5 := fun o o1 => cell_b (ac_A1_5 o) (below_alloc _ o1); have dc_A1_5 := fun o o1 o2 => cell_b (bc_A1_5 o o1) (below_alloc _ o2); have ac_A2_5 := fun o => cell_b c_A2_5 (below_alloc _ o); have bc_A2_5 := fun o o1 => cell_b (ac_A2_5 o) (below_alloc _ o1); have dc_A2_5 := fun o o1 o2 => cell_b (bc_A2_5 o o1) (below_alloc _ o2); have ac_R0_5 := fun o => cell_b c_R0_5 (below_alloc _ o); have bc_R0_5 := fun o o1 => cell_b (ac_R0_5 o) (below_alloc _ o1); have dc_R0_5 := fun o o1 o2 => cell_b (bc_R0_5 o o1) (below_alloc _ o2); have ac_R1_5 := fun o => cell_b c_R1_5 (below_alloc _ o); have bc_R1_5 := fun o o1 => cell_b (ac_R1_5 o) (below_alloc _ o1); have dc_R1_5 := fun o o1 o2 => cell_b (bc_R1_5 o o1) (below_alloc _ o2); have ac_R2_5 := fun o => cell_b c_R2_5 (below_alloc _ o); have bc_R2_5 := fun o o1 => cell_b (ac_R2_5 o) (below_alloc _ o1); have dc_R2_5 := fun o o1 o2 => cell_b (bc_R2_5 o o1) (below_alloc _ o2); have af_R0_5 := fun o => frz_b (cell_lt c_R0_5) f_R0_5 (below_alloc _ o); have bf_R0_5 := fun o o1 => frz_b (cell_lt (ac_R0_5 o)) (af_R0_5 o) (below_alloc _ o1); have df_R0_5 := fun o o1 o2 => frz_b (cell_lt (bc_R0_5 o o1)) (bf_R0_5 o o1) (below_alloc _ o2); have af_R1_5 := fun o => frz_b (cell_lt c_R1_5) f_R1_5 (below_alloc _ o); have bf_R1_5 := fun o o1 => frz_b (cell_lt (ac_R1_5 o)) (af_R1_5 o) (below_alloc _ o1); have df_R1_5 := fun o o1 o2 => frz_b (cell_lt (bc_R1_5 o o1)) (bf_R1_5 o o1) (below_alloc _ o2); have af_R2_5 := fun o => frz_b (cell_lt c_R2_5) f_R2_5 (below_alloc _ o); have bf_R2_5 := fun o o1 => frz_b (cell_lt (ac_R2_5 o)) (af_R2_5 o) (below_alloc _ o1); have df_R2_5 := fun o o1 o2 => frz_b (cell_lt (bc_R2_5 o o1)) (bf_R2_5 o o1) (below_alloc _ o2); clear hown hgrow ho T4 ac_A0_4 bc_A0_4 dc_A0_4 ac_A1_4 bc_A1_4 dc_A1_4 ac_A2_4 bc_A2_4 dc_A2_4 ac_R0_4 bc_R0_4 dc_R0_4 ac_R1_4 bc_R1_4 dc_R1_4 ac_R2_4 bc_R2_4 dc_R2_4 af_R0_4 bf_R0_4 df_R0_4 af_R1_4 bf_R1_4 df_R1_4 af_R2_4 bf_R2_4 df_R2_4 c_A0_4 c_A1_4 c_A2_4 c_R0_4 c_R1_4 c_R2_4 f_R0_4 f_R1_4 f_R2_4 o_d_4))
          go_wp2_with fail
          have O5 : Ow w5 (w3.heap.size) (.slice a5 (xs.length + 1) cap5) (xs ++ [t]) := (by have := o_e_5.out; unfold Ow; rwa [show (xs ++ [t]).length = xs.length + 1 by simp])
          refine bodyPost_ret (v := .tuple #[.agg #[.int .i64 p, .int .i64 r, .slice a5 (xs.length + 1) cap5], .slice none 0 0, .bool true]) (by simp [results, Try.results16, go_sem, c_R0_5, c_R1_5, c_R2_5]) rfl ⟨a5, cap5, none, 0, rfl, ?_, ow_nil _ _, ne_nil' _ _ _, (((T5.out).setCell (by simp) _).setCell (by simp) _).setCell (by simp) _⟩
          refine own_base (b := w3.heap.size) ?_ (by omega)
          repeat (first | exact O5 | refine ownsRow_setCell_below ?_ (by show _ + 1 < _; omega) _)
        · by_cases hr9 : r + 1 ≤ 9999
          · have harr : arr p r xs t = (p, r + 1, [], xs ++ [t], true) := by unfold arr; rw [hv, ht, hh']; rw [if_pos (by rfl), if_neg hp, if_pos hr9]
            simp only [harr, List.length_append]
            clear harr
            clear hr hnc
            go_enter Try.func16, Try.ntmps16
            have T0 := Lib.hid (Below.refl w.heap.size w)
            go_wp2_with fail
            refine (I_BarrierValid _ p r _ xs (rd_alloc (rd_alloc (rd_below HR.out T0.out) _) _) (by omega)).mono ?_
            rintro e w1 ⟨rfl, hb⟩
            have D1 : Below w.heap.size w w1 := below_trans (below_alloc _ _) (below_trans (below_alloc _ _) (hb))
            have T1 := Lib.hid (below_trans T0.out D1)
            have z1 : w.heap.size + 2 ≤ w1.heap.size := (by have := hb.size; (try simp at this); omega)
            have c_A0_1 := cell_b (p := ⟨w.heap.size, 0, none⟩) (v := .int .i64 p) (by simp) hb
            have c_A1_1 := cell_b (p := ⟨w.heap.size, 1, none⟩) (v := .int .i64 r) (by simp) hb
            have c_A2_1 := cell_b (p := ⟨w.heap.size, 2, none⟩) (v := .slice a xs.length cap) (by simp) hb
            have c_R0_1 := cell_b (p := ⟨w.heap.size + 1, 0, none⟩) (v := .int .i64 0) (by simp) hb
            have f_R0_1 : w1.frozen? ⟨w.heap.size + 1, 0, none⟩ = false := (hb.frozen (p := ⟨w.heap.size + 1, 0, none⟩) (by simp; try omega)).trans (by simp)
            have c_R1_1 := cell_b (p := ⟨w.heap.size + 1, 1, none⟩) (v := .int .i64 0) (by simp) hb
            have f_R1_1 : w1.frozen? ⟨w.heap.size + 1, 1, none⟩ = false := (hb.frozen (p := ⟨w.heap.size + 1, 1, none⟩) (by simp; try omega)).trans (by simp)
            have c_R2_1 := cell_b (p := ⟨w.heap.size + 1, 2, none⟩) (v := .slice none 0 0) (by simp) hb
            have f_R2_1 : w1.frozen? ⟨w.heap.size + 1, 2, none⟩ = false := (hb.frozen (p := ⟨w.heap.size + 1, 2, none⟩) (by simp; try omega)).trans (by simp)
            have ac_A0_1 := fun o => cell_b c_A0_1 (below_alloc _ o)
            have bc_A0_1 := fun o o1 => cell_b (ac_A0_1 o) (below_alloc _ o1)
            have dc_A0_1 := fun o o1 o2 => cell_b (bc_A0_1 o o1) (below_alloc _ o2)
            have ac_A1_1 := fun o => cell_b c_A1_1 (below_alloc _ o)
            have bc_A1_1 := fun o o1 => cell_b (ac_A1_1 o) (below_alloc _ o1)
            have dc_A1_1 := fun o o1 o2 => cell_b (bc_A1_1 o o1) (below_alloc _ o2)
            have ac_A2_1 := fun o => cell_b c_A2_1 (below_alloc _ o)
            have bc_A2_1 := fun o o1 => cell_b (ac_A2_1 o) (below_alloc _ o1)
            have dc_A2_1 := fun o o1 o2 => cell_b (bc_A2_1 o o1) (below_alloc _ o2)
            have ac_R0_1 := fun o => cell_b c_R0_1 (below_alloc _ o)
            have bc_R0_1 := fun o o1 => cell_b (ac_R0_1 o) (below_alloc _ o1)
            have dc_R0_1 := fun o o1 o2 => cell_b (bc_R0_1 o o1) (below_alloc _ o2)
            have ac_R1_1 := fun o => cell_b c_R1_1 (below_alloc _ o)
            have bc_R1_1 := fun o o1 => cell_b (ac_R1_1 o) (below_alloc _ o1)
            have dc_R1_1 := fun o o1 o2 => cell_b (bc_R1_1 o o1) (below_alloc _ o2)
            have ac_R2_1 := fun o => cell_b c_R2_1 (below_alloc _ o)
            have bc_R2_1 := fun o o1 => cell_b (ac_R2_1 o) (below_alloc _ o1)
            have dc_R2_1 := fun o o1 o2 => cell_b (bc_R2_1 o o1) (below_alloc _ o2)
            have af_R0_1 := fun o => frz_b (cell_lt c_R0_1) f_R0_1 (below_alloc _ o)
            have bf_R0_1 := fun o o1 => frz_b (cell_lt (ac_R0_1 o)) (af_R0_1 o) (below_alloc _ o1)
            have df_R0_1 := fun o o1 o2 => frz_b (cell_lt (bc_R0_1 o o1)) (bf_R0_1 o o1) (below_alloc _ o2)
            have af_R1_1 := fun o => frz_b (cell_lt c_R1_1) f_R1_1 (below_alloc _ o)
            have bf_R1_1 := fun o o1 => frz_b (cell_lt (ac_R1_1 o)) (af_R1_1 o) (below_alloc _ o1)
            have df_R1_1 := fun o o1 o2 => frz_b (cell_lt (bc_R1_1 o o1)) (bf_R1_1 o o1) (below_alloc _ o2)
            have af_R2_1 := fun o => frz_b (cell_lt c_R2_1) f_R2_1 (below_alloc _ o)
            have bf_R2_1 := fun o o1 => frz_b (cell_lt (ac_R2_1 o)) (af_R2_1 o) (below_alloc _ o1)
            have df_R2_1 := fun o o1 o2 => frz_b (cell_lt (bc_R2_1 o o1)) (bf_R2_1 o o1) (below_alloc _ o2)
            clear hb D1 T0
            go_wp2_with fail
            refine (same_b (I_isThread _ t)).mono ?_
            rintro e w2 ⟨rfl, hb⟩
            have D2 : Below w1.heap.size w1 w2 := hb
            have c_A0_2 := cell_b c_A0_1 D2
            have c_A1_2 := cell_b c_A1_1 D2
            have c_A2_2 := cell_b c_A2_1 D2
            have c_R0_2 := cell_b c_R0_1 D2
            have c_R1_2 := cell_b c_R1_1 D2
            have c_R2_2 := cell_b c_R2_1 D2
            have f_R0_2 := (D2.frozen (p := ⟨w.heap.size + 1, 0, none⟩) (World.block_lt_of_cell? _ _ c_R0_1)).trans f_R0_1
            have f_R1_2 := (D2.frozen (p := ⟨w.heap.size + 1, 1, none⟩) (World.block_lt_of_cell? _ _ c_R1_1)).trans f_R1_1
            have f_R2_2 := (D2.frozen (p := ⟨w.heap.size + 1, 2, none⟩) (World.block_lt_of_cell? _ _ c_R2_1)).trans f_R2_1
            have T2 := Lib.hid (below_trans T1.out D2)
            have z2 : w1.heap.size ≤ w2.heap.size := (by have := hb.size; (try simp at this); omega)
            have ac_A0_2 := fun o => cell_b c_A0_2 (below_alloc _ o)
            have bc_A0_2 := fun o o1 => cell_b (ac_A0_2 o) (below_alloc _ o1)
            have dc_A0_2 := fun o o1 o2 => cell_b (bc_A0_2 o o1) (below_alloc _ o2)
            have ac_A1_2 := fun o => cell_b c_A1_2 (below_alloc _ o)
            have bc_A1_2 := fun o o1 => cell_b (ac_A1_2 o) (below_alloc _ o1)
            have dc_A1_2 := fun o o1 o2 => cell_b (bc_A1_2 o o1) (below_alloc _ o2)
            have ac_A2_2 := fun o => cell_b c_A2_2 (below_alloc _ o)
            have bc_A2_2 := fun o o1 => cell_b (ac_A2_2 o) (below_alloc _ o1)
            have dc_A2_2 := fun o o1 o2 => cell_b (bc_A2_2 o o1) (below_alloc _ o2)
            have ac_R0_2 := fun o => cell_b c_R0_2 (below_alloc _ o)
            have bc_R0_2 := fun o o1 => cell_b (ac_R0_2 o) (below_alloc _ o1)
            have dc_R0_2 := fun o o1 o2 => cell_b (bc_R0_2 o o1) (below_alloc _ o2)
            have ac_R1_2 := fun o => cell_b c_R1_2 (below_alloc _ o)
            have bc_R1_2 := fun o o1 => cell_b (ac_R1_2 o) (below_alloc _ o1)
            have dc_R1_2 := fun o o1 o2 => cell_b (bc_R1_2 o o1) (below_alloc _ o2)
            have ac_R2_2 := fun o => cell_b c_R2_2 (below_alloc _ o)
            have bc_R2_2 := fun o o1 => cell_b (ac_R2_2 o) (below_alloc _ o1)
            have dc_R2_2 := fun o o1 o2 => cell_b (bc_R2_2 o o1) (below_alloc _ o2)
            have af_R0_2 := fun o => frz_b (cell_lt c_R0_2) f_R0_2 (below_alloc _ o)
            have bf_R0_2 := fun o o1 => frz_b (cell_lt (ac_R0_2 o)) (af_R0_2 o) (below_alloc _ o1)
            have df_R0_2 := fun o o1 o2 => frz_b (cell_lt (bc_R0_2 o o1)) (bf_R0_2 o o1) (below_alloc _ o2)
            have af_R1_2 := fun o => frz_b (cell_lt c_R1_2) f_R1_2 (below_alloc _ o)
            have bf_R1_2 := fun o o1 => frz_b (cell_lt (ac_R1_2 o)) (af_R1_2 o) (below_alloc _ o1)
            have df_R1_2 := fun o o1 o2 => frz_b (cell_lt (bc_R1_2 o o1)) (bf_R1_2 o o1) (below_alloc _ o2)
            have af_R2_2 := fun o => frz_b (cell_lt c_R2_2) f_R2_2 (below_alloc _ o)
            have bf_R2_2 := fun o o1 => frz_b (cell_lt (ac_R2_2 o)) (af_R2_2 o) (below_alloc _ o1)
            have df_R2_2 := fun o o1 o2 => frz_b (cell_lt (bc_R2_2 o o1)) (bf_R2_2 o o1) (below_alloc _ o2)
            clear ac_A0_1 bc_A0_1 dc_A0_1 ac_A1_1 bc_A1_1 dc_A1_1 ac_A2_1 bc_A2_1 dc_A2_1 ac_R0_1 bc_R0_1 dc_R0_1 ac_R1_1 bc_R1_1 dc_R1_1 ac_R2_1 bc_R2_1 dc_R2_1 af_R0_1 bf_R0_1 df_R0_1 af_R1_1 bf_R1_1 df_R1_1 af_R2_1 bf_R2_1 df_R2_1 c_A0_1 c_A1_1 c_A2_1 c_R0_1 c_R1_1 c_R2_1 f_R0_1 f_R1_1 f_R2_1 hb D2 T1
            go_wp2_with fail
            refine (same_b (slices_Contains _ _ xs t (rd_below HR.out T2.out) (by omega))).mono ?_
            rintro e w3 ⟨rfl, hb⟩
            have D3 : Below w2.heap.size w2 w3 := hb
            have c_A0_3 := cell_b c_A0_2 D3
            have c_A1_3 := cell_b c_A1_2 D3
            have c_A2_3 := cell_b c_A2_2 D3
            have c_R0_3 := cell_b c_R0_2 D3
            have c_R1_3 := cell_b c_R1_2 D3
            have c_R2_3 := cell_b c_R2_2 D3
            have f_R0_3 := (D3.frozen (p := ⟨w.heap.size + 1, 0, none⟩) (World.block_lt_of_cell? _ _ c_R0_2)).trans f_R0_2
            have f_R1_3 := (D3.frozen (p := ⟨w.heap.size + 1, 1, none⟩) (World.block_lt_of_cell? _ _ c_R1_2)).trans f_R1_2
            have f_R2_3 := (D3.frozen (p := ⟨w.heap.size + 1, 2, none⟩) (World.block_lt_of_cell? _ _ c_R2_2)).trans f_R2_2
            have T3 := Lib.hid (below_trans T2.out D3)
            have z3 : w2.heap.size ≤ w3.heap.size := (by have := hb.size; (try simp at this); omega)
            have ac_A0_3 := fun o => cell_b c_A0_3 (below_alloc _ o)
            have bc_A0_3 := fun o o1 => cell_b (ac_A0_3 o) (below_alloc _ o1)
            have dc_A0_3 := fun o o1 o2 => cell_b (bc_A0_3 o o1) (below_alloc _ o2)
            have ac_A1_3 := fun o => cell_b c_A1_3 (below_alloc _ o)
            have bc_A1_3 := fun o o1 => cell_b (ac_A1_3 o) (below_alloc _ o1)
            have dc_A1_3 := fun o o1 o2 => cell_b (bc_A1_3 o o1) (below_alloc _ o2)
            have ac_A2_3 := fun o => cell_b c_A2_3 (below_alloc _ o)
            have bc_A2_3 := fun o o1 => cell_b (ac_A2_3 o) (below_alloc _ o1)
            have dc_A2_3 := fun o o1 o2 => cell_b (bc_A2_3 o o1) (below_alloc _ o2)
            have ac_R0_3 := fun o => cell_b c_R0_3 (below_alloc _ o)
            have bc_R0_3 := fun o o1 => cell_b (ac_R0_3 o) (below_alloc _ o1)
            have dc_R0_3 := fun o o1 o2 => cell_b (bc_R0_3 o o1) (below_alloc _ o2)
            have ac_R1_3 := fun o => cell_b c_R1_3 (below_alloc _ o)
            have bc_R1_3 := fun o o1 => cell_b (ac_R1_3 o) (below_alloc _ o1)
            have dc_R1_3 := fun o o1 o2 => cell_b (bc_R1_3 o o1) (below_alloc _ o2)
            have ac_R2_3 := fun o => cell_b c_R2_3 (below_alloc _ o)
            have bc_R2_3 := fun o o1 => cell_b (ac_R2_3 o) (below_alloc _ o1)
            have dc_R2_3 := fun o o1 o2 => cell_b (bc_R2_3 o o1) (below_alloc _ o2)
            have af_R0_3 := fun o => frz_b (cell_lt c_R0_3) f_R0_3 (below_alloc _ o)
            have bf_R0_3 := fun o o1 => frz_b (cell_lt (ac_R0_3 o)) (af_R0_3 o) (below_alloc _ o1)
            have df_R0_3 := fun o o1 o2 => frz_b (cell_lt (bc_R0_3 o o1)) (bf_R0_3 o o1) (below_alloc _ o2)
            have af_R1_3 := fun o => frz_b (cell_lt c_R1_3) f_R1_3 (below_alloc _ o)
            have bf_R1_3 := fun o o1 => frz_b (cell_lt (ac_R1_3 o)) (af_R1_3 o) (below_alloc _ o1)
            have df_R1_3 := fun o o1 o2 => frz_b (cell_lt (bc_R1_3 o o1)) (bf_R1_3 o o1) (below_alloc _ o2)
            have af_R2_3 := fun o => frz_b (cell_lt c_R2_3) f_R2_3 (below_alloc _ o)
            have bf_R2_3 := fun o o1 => frz_b (cell_lt (ac_R2_3 o)) (af_R2_3 o) (below_alloc _ o1)
            have df_R2_3 := fun o o1 o2 => frz_b (cell_lt (bc_R2_3 o o1)) (bf_R2_3 o o1) (below_alloc _ o2)
            clear ac_A0_2 bc_A0_2 dc_A0_2 ac_A1_2 bc_A1_2 dc_A1_2 ac_A2_2 bc_A2_2 dc_A2_2 ac_R0_2 bc_R0_2 dc_R0_2 ac_R1_2 bc_R1_2 dc_R1_2 ac_R2_2 bc_R2_2 dc_R2_2 af_R0_2 bf_R0_2 df_R0_2 af_R1_2 bf_R1_2 df_R1_2 af_R2_2 bf_R2_2 df_R2_2 c_A0_2 c_A1_2 c_A2_2 c_R0_2 c_R1_2 c_R2_2 f_R0_2 f_R1_2 f_R2_2 hb D3 T2
            go_wp2_with fail
            refine (I_cloneInts _ _ xs (rd_below HR.out T3.out) (by omega)).mono ?_
            rintro e w4 ⟨a4, cap4, rfl, hd, hb⟩
            have D4 : Below w3.heap.size w3 w4 := hb
            have c_A0_4 := cell_b c_A0_3 D4
            have c_A1_4 := cell_b c_A1_3 D4
            have c_A2_4 := cell_b c_A2_3 D4
            have c_R0_4 := cell_b c_R0_3 D4
            have c_R1_4 := cell_b c_R1_3 D4
            have c_R2_4 := cell_b c_R2_3 D4
            have f_R0_4 := (D4.frozen (p := ⟨w.heap.size + 1, 0, none⟩) (World.block_lt_of_cell? _ _ c_R0_3)).trans f_R0_3
            have f_R1_4 := (D4.frozen (p := ⟨w.heap.size + 1, 1, none⟩) (World.block_lt_of_cell? _ _ c_R1_3)).trans f_R1_3
            have f_R2_4 := (D4.frozen (p := ⟨w.heap.size + 1, 2, none⟩) (World.block_lt_of_cell? _ _ c_R2_3)).trans f_R2_3
            have T4 := Lib.hid (below_trans T3.out D4)
            have z4 : w3.heap.size ≤ w4.heap.size := (by have := hb.size; (try simp at this); omega)
            have o_d_4 := Lib.hid (own_base hd (show w3.heap.size ≤ _ by simp; try omega))
            have lo_d := Lib.hid (own_lo o_d_4.out)
            have hi_d := Lib.hid (own_hi o_d_4.out)
            have ac_A0_4 := fun o => cell_b c_A0_4 (below_alloc _ o)
            have bc_A0_4 := fun o o1 => cell_b (ac_A0_4 o) (below_alloc _ o1)
            have dc_A0_4 := fun o o1 o2 => cell_b (bc_A0_4 o o1) (below_alloc _ o2)
            have ac_A1_4 := fun o => cell_b c_A1_4 (below_alloc _ o)
            have bc_A1_4 := fun o o1 => cell_b (ac_A1_4 o) (below_alloc _ o1)
            have dc_A1_4 := fun o o1 o2 => cell_b (bc_A1_4 o o1) (below_alloc _ o2)
            have ac_A2_4 := fun o => cell_b c_A2_4 (below_alloc _ o)
            have bc_A2_4 := fun o o1 => cell_b (ac_A2_4 o) (below_alloc _ o1)
            have dc_A2_4 := fun o o1 o2 => cell_b (bc_A2_4 o o1) (below_alloc _ o2)
            have ac_R0_4 := fun o => cell_b c_R0_4 (below_alloc _ o)
            have bc_R0_4 := fun o o1 => cell_b (ac_R0_4 o) (below_alloc _ o1)
            have dc_R0_4 := fun o o1 o2 => cell_b (bc_R0_4 o o1) (below_alloc _ o2)
            have ac_R1_4 := fun o => cell_b c_R1_4 (below_alloc _ o)
            have bc_R1_4 := fun o o1 => cell_b (ac_R1_4 o) (below_alloc _ o1)
            have dc_R1_4 := fun o o1 o2 => cell_b (bc_R1_4 o o1) (below_alloc _ o2)
            have ac_R2_4 := fun o => cell_b c_R2_4 (below_alloc _ o)
            have bc_R2_4 := fun o o1 => cell_b (ac_R2_4 o) (below_alloc _ o1)
            have dc_R2_4 := fun o o1 o2 => cell_b (bc_R2_4 o o1) (below_alloc _ o2)
            have af_R0_4 := fun o => frz_b (cell_lt c_R0_4) f_R0_4 (below_alloc _ o)
            have bf_R0_4 := fun o o1 => frz_b (cell_lt (ac_R0_4 o)) (af_R0_4 o) (below_alloc _ o1)
            have df_R0_4 := fun o o1 o2 => frz_b (cell_lt (bc_R0_4 o o1)) (bf_R0_4 o o1) (below_alloc _ o2)
            have af_R1_4 := fun o => frz_b (cell_lt c_R1_4) f_R1_4 (below_alloc _ o)
            have bf_R1_4 := fun o o1 => frz_b (cell_lt (ac_R1_4 o)) (af_R1_4 o) (below_alloc _ o1)
            have df_R1_4 := fun o o1 o2 => frz_b (cell_lt (bc_R1_4 o o1)) (bf_R1_4 o o1) (below_alloc _ o2)
            have af_R2_4 := fun o => frz_b (cell_lt c_R2_4) f_R2_4 (below_alloc _ o)
            have bf_R2_4 := fun o o1 => frz_b (cell_lt (ac_R2_4 o)) (af_R2_4 o) (below_alloc _ o1)
            have df_R2_4 := fun o o1 o2 => frz_b (cell_lt (bc_R2_4 o o1)) (bf_R2_4 o o1) (below_alloc _ o2)
            clear ac_A0_3 bc_A0_3 dc_A0_3 ac_A1_3 bc_A1_3 dc_A1_3 ac_A2_3 bc_A2_3 dc_A2_3 ac_R0_3 bc_R0_3 dc_R0_3 ac_R1_3 bc_R1_3 dc_R1_3 ac_R2_3 bc_R2_3 dc_R2_3 af_R0_3 bf_R0_3 df_R0_3 af_R1_3 bf_R1_3 df_R1_3 af_R2_3 bf_R2_3 df_R2_3 c_A0_3 c_A1_3 c_A2_3 c_R0_3 c_R1_3 c_R2_3 f_R0_3 f_R1_3 f_R2_3 hb D4 hd T3
            have tok5 : True := trivial
            go_wp2_with (first | (at_builtin; have _t := tok5; refine wpList_append_own _ rfl _ _ 24 rfl (w3.heap.size) 3 i0 (.int .i64 0) 1 8 Try.underlying24 hi hz0 hz1 hz2 rfl (by decide) (.slice a4 xs.length cap4) (xs.length) (ints (xs)) rfl (own_below (o_d_4.out) (below_alloc _ _)) ⟨w4.heap.size, 0, none⟩ 1 1 [.int .i64 (t)] rfl rfl (cell_one_new _ _ _) (ints_oneCell .i64 [t]) (by unfold maxLen; omega) (by omega) (by simp; try omega) ?_; intro v5 w5 hown hgrow _; clear tok5; have ho : w5.ownsRow (w3.heap.size) 3 1 v5 (xs.length + 1) (ints (xs ++ [t])) := (by rw [ints_append]; exact hown); obtain ⟨a5, cap5, hv⟩ := own_shape ho; subst hv; have c_A0_5 := cell_gr (cell_b c_A0_4 (below_alloc _ _)) hgrow (fun g h => by have h1 := lo_d.out g h; have h2 := hi_d.out g h; show w.heap.size ≠ g; omega); have c_A1_5 := cell_gr (cell_b c_A1_4 (below_alloc _ _)) hgrow (fun g h => by have h1 := lo_d.out g h; have h2 := hi_d.out g h; show w.heap.size ≠ g; omega); have c_A2_5 := cell_gr (cell_b c_A2_4 (below_alloc _ _)) hgrow (fun g h => by have h1 := lo_d.out g h; have h2 := hi_d.out g h; show w.heap.size ≠ g; omega); have c_R0_5 := cell_gr (cell_b c_R0_4 (below_alloc _ _)) hgrow (fun g h => by have h1 := lo_d.out g h; have h2 := hi_d.out g h; show w.heap.size + 1 ≠ g; omega); have c_R1_5 := cell_gr (cell_b c_R1_4 (below_alloc _ _)) hgrow (fun g h => by have h1 := lo_d.out g h; have h2 := hi_d.out g h; show w.heap.size + 1 ≠ g; omega); have c_R2_5 := cell_gr (cell_b c_R2_4 (below_alloc _ _)) hgrow (fun g h => by have h1 := lo_d.out g h; have h2 := hi_d.out g h; show w.heap.size + 1 ≠ g; omega); have f_R0_5 := (frz_gr (p := ⟨w.heap.size + 1, 0, none⟩) (cell_lt (cell_b c_R0_4 (below_alloc _ _))) hgrow (fun g h => by have h1 := lo_d.out g h; have h2 := hi_d.out g h; show w.heap.size + 1 ≠ g; omega)).trans (frz_b (cell_lt c_R0_4) f_R0_4 (below_alloc _ _)); have f_R1_5 := (frz_gr (p := ⟨w.heap.size + 1, 1, none⟩) (cell_lt (cell_b c_R1_4 (below_alloc _ _))) hgrow (fun g h => by have h1 := lo_d.out g h; have h2 := hi_d.out g h; show w.heap.size + 1 ≠ g; omega)).trans (frz_b (cell_lt c_R1_4) f_R1_4 (below_alloc _ _)); have f_R2_5 := (frz_gr (p := ⟨w.heap.size + 1, 2, none⟩) (cell_lt (cell_b c_R2_4 (below_alloc _ _))) hgrow (fun g h => by have h1 := lo_d.out g h; have h2 := hi_d.out g h; show w.heap.size + 1 ≠ g; omega)).trans (frz_b (cell_lt c_R2_4) f_R2_4 (below_alloc _ _)); have z5 : w4.heap.size + 1 ≤ w5.heap.size := (by have := hgrow.size; (try simp at this); omega); have T5 := Lib.hid (below_gr (T4.out.trans ((below_alloc _ _ : Below w4.heap.size w4 _).mono T4.out.size)) (by have := T4.out.size; simp; try omega) hgrow (fun g h => by have h9 := T4.out.size; have h1 := lo_d.out g h; have h2 := hi_d.out g h; omega)); have o_e_5 := Lib.hid ho; have lo_e := Lib.hid (own_lo o_e_5.out); have hi_e := Lib.hid (own_hi o_e_5.out); have ac_A0_5 := fun o => cell_b c_A0_5 (below_alloc _ o); have bc_A0_5 := fun o o1 => cell_b (ac_A0_5 o) (below_alloc _ o1); have dc_A0_5 := fun o o1 o2 => cell_b (bc_A0_5 o o1) (below_alloc _ o2); have ac_A1_5 := fun o => cell_b c_A1_5 (below_alloc _ o); have bc_A1_5 := fun o o1 => cell_b (ac_A1_5 o) (below_alloc _ o1); have dc_A1_5 := fun o o1 o2 => cell_b (bc_A1_5 o o1) (below_alloc _ o2); have ac_A2_5 := fun o => cell_b c_A2_5 (below_alloc _ o); have bc_A2_5 := fun o o1 => cell_b (ac_A2_5 o) (below_alloc _ o1); have dc_A2_5 := fun o o1 o2 => cell_b (bc_A2_5 o o1) (below_alloc _ o2); have ac_R0_5 := fun o => cell_b c_R0_5 (below_alloc _ o); have bc_R0_5 := fun o o1 => cell_b (ac_R0_5 o) (below_alloc _ o1); have dc_R0_5 := fun o o1 o2 => cell_b (bc_R0_5 o o1) (below_alloc _ o2); have ac_R1_5 := fun o => cell_b c_R1_5 (below_alloc _ o); have bc_R1_5 := fun o o1 => cell_b (ac_R1_5 o) (below_alloc _ o1); have dc_R1_5 := fun o o1 o2 => cell_b (bc_R1_5 o o1) (below_alloc _ o2); have ac_R2_5 := fun o => cell_b c_R2_5 (below_alloc _ o); have bc_R2_5 := fun o o1 => cell_b (ac_R2_5 o) (below_alloc _ o1); have dc_R2_5 := fun o o1 o2 => cell_b (bc_R2_5 o o1) (below_alloc _ o2); have af_R0_5 := fun o => frz_b (cell_lt c_R0_5) f_R0_5 (below_alloc _ o); have bf_R0_5 := fun o o1 => frz_b (cell_lt (ac_R0_5 o)) (af_R0_5 o) (below_alloc _ o1); have df_R0_5 := fun o o1 o2 => frz_b (cell_lt (bc_R0_5 o o1)) (bf_R0_5 o o1) (below_alloc _ o2); have af_R1_5 := fun o => frz_b (cell_lt c_R1_5) f_R1_5 (below_alloc _ o); have bf_R1_5 := fun o o1 => frz_b (cell_lt (ac_R1_5 o)) (af_R1_5 o) (below_alloc _ o1); have df_R1_5 := fun o o1 o2 => frz_b (cell_lt (bc_R1_5 o o1)) (bf_R1_5 o o1) (below_alloc _ o2); have af_R2_5 := fun o => frz_b (cell_lt c_R2_5) f_R2_5 (below_alloc _ o); have bf_R2_5 := fun o o1 => frz_b (cell_lt (ac_R2_5 o)) (af_R2_5 o) (below_alloc _ o1); have df_R2_5 := fun o o1 o2 => frz_b (cell_lt (bc_R2_5 o o1)) (bf_R2_5 o o1) (below_alloc _ o2); clear hown hgrow ho T4 ac_A0_4 bc_A0_4 dc_A0_4 ac_A1_4 bc_A1_4 dc_A1_4 ac_A2_4 bc_A2_4 dc_A2_4 ac_R0_4 bc_R0_4 dc_R0_4 ac_R1_4 bc_R1_4 dc_R1_4 ac_R2_4 bc_R2_4 dc_R2_4 af_R0_4 bf_R0_4 df_R0_4 af_R1_4 bf_R1_4 df_R1_4 af_R2_4 bf_R2_4 df_R2_4 c_A0_4 c_A1_4 c_A2_4 c_R0_4 c_R1_4 c_R2_4 f_R0_4 f_R1_4 f_R2_4 o_d_4))
            go_wp2_with fail
            have O5 : Ow w5 (w3.heap.size) (.slice a5 (xs.length + 1) cap5) (xs ++ [t]) := (by have := o_e_5.out; unfold Ow; rwa [show (xs ++ [t]).length = xs.length + 1 by simp])
            refine bodyPost_ret (v := .tuple #[.agg #[.int .i64 p, .int .i64 (r + 1), .slice none 0 0], .slice a5 (xs.length + 1) cap5, .bool true]) (by simp [results, Try.results16, go_sem, c_R0_5, c_R1_5, c_R2_5]) rfl ⟨none, 0, a5, cap5, rfl, ow_nil _ _, ?_, ne_nil _ _ _, (((T5.out).setCell (by simp) _).setCell (by simp) _).setCell (by simp) _⟩
            refine own_base (b := w3.heap.size) ?_ (by omega)
            repeat (first | exact O5 | refine ownsRow_setCell_below ?_ (by show _ + 1 < _; omega) _)
          · have harr : arr p r xs t = (0, 0, [], [], false) := by unfold arr; rw [hv, ht, hh']; rw [if_pos (by rfl), if_neg hp, if_neg hr9]
            obtain rfl : r = 9999 := by omega
            simp only [harr]
            clear harr
            clear hr hnc
            go_enter Try.func16, Try.ntmps16
            have T0 := Lib.hid (Below.refl w.heap.size w)
            go_wp2_with fail
            refine (I_BarrierValid _ p 9999 _ xs (rd_alloc (rd_alloc (rd_below HR.out T0.out) _) _) (by omega)).mono ?_
            rintro e w1 ⟨rfl, hb⟩
            have D1 : Below w.heap.size w w1 := below_trans (below_alloc _ _) (below_trans (below_alloc _ _) (hb))
            have T1 := Lib.hid (below_trans T0.out D1)
            have z1 : w.heap.size + 2 ≤ w1.heap.size := (by have := hb.size; (try simp at this); omega)
            have c_A0_1 := cell_b (p := ⟨w.heap.size, 0, none⟩) (v := .int .i64 p) (by simp) hb
            have c_A1_1 := cell_b (p := ⟨w.heap.size, 1, none⟩) (v := .int .i64 9999) (by simp) hb
            have c_A2_1 := cell_b (p := ⟨w.heap.size, 2, none⟩) (v := .slice a xs.length cap) (by simp) hb
            have c_R0_1 := cell_b (p := ⟨w.heap.size + 1, 0, none⟩) (v := .int .i64 0) (by simp) hb
            have f_R0_1 : w1.frozen? ⟨w.heap.size + 1, 0, none⟩ = false := (hb.frozen (p := ⟨w.heap.size + 1, 0, none⟩) (by simp; try omega)).trans (by simp)
            have c_R1_1 := cell_b (p := ⟨w.heap.size + 1, 1, none⟩) (v := .int .i64 0) (by simp) hb
            have f_R1_1 : w1.frozen? ⟨w.heap.size + 1, 1, none⟩ = false := (hb.frozen (p := ⟨w.heap.size + 1, 1, none⟩) (by simp; try omega)).trans (by simp)
            have c_R2_1 := cell_b (p := ⟨w.heap.size + 1, 2, none⟩) (v := .slice none 0 0) (by simp) hb
            have f_R2_1 : w1.frozen? ⟨w.heap.size + 1, 2, none⟩ = false := (hb.frozen (p := ⟨w.heap.size + 1, 2, none⟩) (by simp; try omega)).trans (by simp)
            have ac_A0_1 := fun o => cell_b c_A0_1 (below_alloc _ o)
            have bc_A0_1 := fun o o1 => cell_b (ac_A0_1 o) (below_alloc _ o1)
            have dc_A0_1 := fun o o1 o2 => cell_b (bc_A0_1 o o1) (below_alloc _ o2)
            have ac_A1_1 := fun o => cell_b c_A1_1 (below_alloc _ o)
            have bc_A1_1 := fun o o1 => cell_b (ac_A1_1 o) (below_alloc _ o1)
            have dc_A1_1 := fun o o1 o2 => cell_b (bc_A1_1 o o1) (below_alloc _ o2)
            have ac_A2_1 := fun o => cell_b c_A2_1 (below_alloc _ o)
            have bc_A2_1 := fun o o1 => cell_b (ac_A2_1 o) (below_alloc _ o1)
            have dc_A2_1 := fun o o1 o2 => cell_b (bc_A2_1 o o1) (below_alloc _ o2)
            have ac_R0_1 := fun o => cell_b c_R0_1 (below_alloc _ o)
            have bc_R0_1 := fun o o1 => cell_b (ac_R0_1 o) (below_alloc _ o1)
            have dc_R0_1 := fun o o1 o2 => cell_b (bc_R0_1 o o1) (below_alloc _ o2)
            have ac_R1_1 := fun o => cell_b c_R1_1 (below_alloc _ o)
            have bc_R1_1 := fun o o1 => cell_b (ac_R1_1 o) (below_alloc _ o1)
            have dc_R1_1 := fun o o1 o2 => cell_b (bc_R1_1 o o1) (below_alloc _ o2)
            have ac_R2_1 := fun o => cell_b c_R2_1 (below_alloc _ o)
            have bc_R2_1 := fun o o1 => cell_b (ac_R2_1 o) (below_alloc _ o1)
            have dc_R2_1 := fun o o1 o2 => cell_b (bc_R2_1 o o1) (below_alloc _ o2)
            have af_R0_1 := fun o => frz_b (cell_lt c_R0_1) f_R0_1 (below_alloc _ o)
            have bf_R0_1 := fun o o1 => frz_b (cell_lt (ac_R0_1 o)) (af_R0_1 o) (below_alloc _ o1)
            have df_R0_1 := fun o o1 o2 => frz_b (cell_lt (bc_R0_1 o o1)) (bf_R0_1 o o1) (below_alloc _ o2)
            have af_R1_1 := fun o => frz_b (cell_lt c_R1_1) f_R1_1 (below_alloc _ o)
            have bf_R1_1 := fun o o1 => frz_b (cell_lt (ac_R1_1 o)) (af_R1_1 o) (below_alloc _ o1)
            have df_R1_1 := fun o o1 o2 => frz_b (cell_lt (bc_R1_1 o o1)) (bf_R1_1 o o1) (below_alloc _ o2)
            have af_R2_1 := fun o => frz_b (cell_lt c_R2_1) f_R2_1 (below_alloc _ o)
            have bf_R2_1 := fun o o1 => frz_b (cell_lt (ac_R2_1 o)) (af_R2_1 o) (below_alloc _ o1)
            have df_R2_1 := fun o o1 o2 => frz_b (cell_lt (bc_R2_1 o o1)) (bf_R2_1 o o1) (below_alloc _ o2)
            clear hb D1 T0
            go_wp2_with fail
            refine (same_b (I_isThread _ t)).mono ?_
            rintro e w2 ⟨rfl, hb⟩
            have D2 : Below w1.heap.size w1 w2 := hb
            have c_A0_2 := cell_b c_A0_1 D2
            have c_A1_2 := cell_b c_A1_1 D2
            have c_A2_2 := cell_b c_A2_1 D2
            have c_R0_2 := cell_b c_R0_1 D2
            have c_R1_2 := cell_b c_R1_1 D2
            have c_R2_2 := cell_b c_R2_1 D2
            have f_R0_2 := (D2.frozen (p := ⟨w.heap.size + 1, 0, none⟩) (World.block_lt_of_cell? _ _ c_R0_1)).trans f_R0_1
            have f_R1_2 := (D2.frozen (p := ⟨w.heap.size + 1, 1, none⟩) (World.block_lt_of_cell? _ _ c_R1_1)).trans f_R1_1
            have f_R2_2 := (D2.frozen (p := ⟨w.heap.size + 1, 2, none⟩) (World.block_lt_of_cell? _ _ c_R2_1)).trans f_R2_1
            have T2 := Lib.hid (below_trans T1.out D2)
            have z2 : w1.heap.size ≤ w2.heap.size := (by have := hb.size; (try simp at this); omega)
            have ac_A0_2 := fun o => cell_b c_A0_2 (below_alloc _ o)
            have bc_A0_2 := fun o o1 => cell_b (ac_A0_2 o) (below_alloc _ o1)
            have dc_A0_2 := fun o o1 o2 => cell_b (bc_A0_2 o o1) (below_alloc _ o2)
            have ac_A1_2 := fun o => cell_b c_A1_2 (below_alloc _ o)
            have bc_A1_2 := fun o o1 => cell_b (ac_A1_2 o) (below_alloc _ o1)
            have dc_A1_2 := fun o o1 o2 => cell_b (bc_A1_2 o o1) (below_alloc _ o2)
            have ac_A2_2 := fun o => cell_b c_A2_2 (below_alloc _ o)
            have bc_A2_2 := fun o o1 => cell_b (ac_A2_2 o) (below_alloc _ o1)
            have dc_A2_2 := fun o o1 o2 => cell_b (bc_A2_2 o o1) (below_alloc _ o2)
            have ac_R0_2 := fun o => cell_b c_R0_2 (below_alloc _ o)
            have bc_R0_2 := fun o o1 => cell_b (ac_R0_2 o) (below_alloc _ o1)
            have dc_R0_2 := fun o o1 o2 => cell_b (bc_R0_2 o o1) (below_alloc _ o2)
            have ac_R1_2 := fun o => cell_b c_R1_2 (below_alloc _ o)
            have bc_R1_2 := fun o o1 => cell_b (ac_R1_2 o) (below_alloc _ o1)
            have dc_R1_2 := fun o o1 o2 => cell_b (bc_R1_2 o o1) (below_alloc _ o2)
            have ac_R2_2 := fun o => cell_b c_R2_2 (below_alloc _ o)
            have bc_R2_2 := fun o o1 => cell_b (ac_R2_2 o) (below_alloc _ o1)
            have dc_R2_2 := fun o o1 o2 => cell_b (bc_R2_2 o o1) (below_alloc _ o2)
            have af_R0_2 := fun o => frz_b (cell_lt c_R0_2) f_R0_2 (below_alloc _ o)
            have bf_R0_2 := fun o o1 => frz_b (cell_lt (ac_R0_2 o)) (af_R0_2 o) (below_alloc _ o1)
            have df_R0_2 := fun o o1 o2 => frz_b (cell_lt (bc_R0_2 o o1)) (bf_R0_2 o o1) (below_alloc _ o2)
            have af_R1_2 := fun o => frz_b (cell_lt c_R1_2) f_R1_2 (below_alloc _ o)
            have bf_R1_2 := fun o o1 => frz_b (cell_lt (ac_R1_2 o)) (af_R1_2 o) (below_alloc _ o1)
            have df_R1_2 := fun o o1 o2 => frz_b (cell_lt (bc_R1_2 o o1)) (bf_R1_2 o o1) (below_alloc _ o2)
            have af_R2_2 := fun o => frz_b (cell_lt c_R2_2) f_R2_2 (below_alloc _ o)
            have bf_R2_2 := fun o o1 => frz_b (cell_lt (ac_R2_2 o)) (af_R2_2 o) (below_alloc _ o1)
            have df_R2_2 := fun o o1 o2 => frz_b (cell_lt (bc_R2_2 o o1)) (bf_R2_2 o o1) (below_alloc _ o2)
            clear ac_A0_1 bc_A0_1 dc_A0_1 ac_A1_1 bc_A1_1 dc_A1_1 ac_A2_1 bc_A2_1 dc_A2_1 ac_R0_1 bc_R0_1 dc_R0_1 ac_R1_1 bc_R1_1 dc_R1_1 ac_R2_1 bc_R2_1 dc_R2_1 af_R0_1 bf_R0_1 df_R0_1 af_R1_1 bf_R1_1 df_R1_1 af_R2_1 bf_R2_1 df_R2_1 c_A0_1 c_A1_1 c_A2_1 c_R0_1 c_R1_1 c_R2_1 f_R0_1 f_R1_1 f_R2_1 hb D2 T1
            go_wp2_with fail
            refine (same_b (slices_Contains _ _ xs t (rd_below HR.out T2.out) (by omega))).mono ?_
            rintro e w3 ⟨rfl, hb⟩
            have D3 : Below w2.heap.size w2 w3 := hb
            have c_A0_3 := cell_b c_A0_2 D3
            have c_A1_3 := cell_b c_A1_2 D3
            have c_A2_3 := cell_b c_A2_2 D3
            have c_R0_3 := cell_b c_R0_2 D3
            have c_R1_3 := cell_b c_R1_2 D3
            have c_R2_3 := cell_b c_R2_2 D3
            have f_R0_3 := (D3.frozen (p := ⟨w.heap.size + 1, 0, none⟩) (World.block_lt_of_cell? _ _ c_R0_2)).trans f_R0_2
            have f_R1_3 := (D3.frozen (p := ⟨w.heap.size + 1, 1, none⟩) (World.block_lt_of_cell? _ _ c_R1_2)).trans f_R1_2
            have f_R2_3 := (D3.frozen (p := ⟨w.heap.size + 1, 2, none⟩) (World.block_lt_of_cell? _ _ c_R2_2)).trans f_R2_2
            have T3 := Lib.hid (below_trans T2.out D3)
            have z3 : w2.heap.size ≤ w3.heap.size := (by have := hb.size; (try simp at this); omega)
            have ac_A0_3 := fun o => cell_b c_A0_3 (below_alloc _ o)
            have bc_A0_3 := fun o o1 => cell_b (ac_A0_3 o) (below_alloc _ o1)
            have dc_A0_3 := fun o o1 o2 => cell_b (bc_A0_3 o o1) (below_alloc _ o2)
            have ac_A1_3 := fun o => cell_b c_A1_3 (below_alloc _ o)
            have bc_A1_3 := fun o o1 => cell_b (ac_A1_3 o) (below_alloc _ o1)
            have dc_A1_3 := fun o o1 o2 => cell_b (bc_A1_3 o o1) (below_alloc _ o2)
            have ac_A2_3 := fun o => cell_b c_A2_3 (below_alloc _ o)
            have bc_A2_3 := fun o o1 => cell_b (ac_A2_3 o) (below_alloc _ o1)
            have dc_A2_3 := fun o o1 o2 => cell_b (bc_A2_3 o o1) (below_alloc _ o2)
            have ac_R0_3 := fun o => cell_b c_R0_3 (below_alloc _ o)
            have bc_R0_3 := fun o o1 => cell_b (ac_R0_3 o) (below_alloc _ o1)
            have dc_R0_3 := fun o o1 o2 => cell_b (bc_R0_3 o o1) (below_alloc _ o2)
            have ac_R1_3 := fun o => cell_b c_R1_3 (below_alloc _ o)
            have bc_R1_3 := fun o o1 => cell_b (ac_R1_3 o) (below_alloc _ o1)
            have dc_R1_3 := fun o o1 o2 => cell_b (bc_R1_3 o o1) (below_alloc _ o2)
            have ac_R2_3 := fun o => cell_b c_R2_3 (below_alloc _ o)
            have bc_R2_3 := fun o o1 => cell_b (ac_R2_3 o) (below_alloc _ o1)
            have dc_R2_3 := fun o o1 o2 => cell_b (bc_R2_3 o o1) (below_alloc _ o2)
            have af_R0_3 := fun o => frz_b (cell_lt c_R0_3) f_R0_3 (below_alloc _ o)
            have bf_R0_3 := fun o o1 => frz_b (cell_lt (ac_R0_3 o)) (af_R0_3 o) (below_alloc _ o1)
            have df_R0_3 := fun o o1 o2 => frz_b (cell_lt (bc_R0_3 o o1)) (bf_R0_3 o o1) (below_alloc _ o2)
            have af_R1_3 := fun o => frz_b (cell_lt c_R1_3) f_R1_3 (below_alloc _ o)
            have bf_R1_3 := fun o o1 => frz_b (cell_lt (ac_R1_3 o)) (af_R1_3 o) (below_alloc _ o1)
            have df_R1_3 := fun o o1 o2 => frz_b (cell_lt (bc_R1_3 o o1)) (bf_R1_3 o o1) (below_alloc _ o2)
            have af_R2_3 := fun o => frz_b (cell_lt c_R2_3) f_R2_3 (below_alloc _ o)
            have bf_R2_3 := fun o o1 => frz_b (cell_lt (ac_R2_3 o)) (af_R2_3 o) (below_alloc _ o1)
            have df_R2_3 := fun o o1 o2 => frz_b (cell_lt (bc_R2_3 o o1)) (bf_R2_3 o o1) (below_alloc _ o2)
            clear ac_A0_2 bc_A0_2 dc_A0_2 ac_A1_2 bc_A1_2 dc_A1_2 ac_A2_2 bc_A2_2 dc_A2_2 ac_R0_2 bc_R0_2 dc_R0_2 ac_R1_2 bc_R1_2 dc_R1_2 ac_R2_2 bc_R2_2 dc_R2_2 af_R0_2 bf_R0_2 df_R0_2 af_R1_2 bf_R1_2 df_R1_2 af_R2_2 bf_R2_2 df_R2_2 c_A0_2 c_A1_2 c_A2_2 c_R0_2 c_R1_2 c_R2_2 f_R0_2 f_R1_2 f_R2_2 hb D3 T2
            go_wp2_with fail
            refine (I_cloneInts _ _ xs (rd_below HR.out T3.out) (by omega)).mono ?_
            rintro e w4 ⟨a4, cap4, rfl, hd, hb⟩
            have D4 : Below w3.heap.size w3 w4 := hb
            have c_A0_4 := cell_b c_A0_3 D4
            have c_A1_4 := cell_b c_A1_3 D4
            have c_A2_4 := cell_b c_A2_3 D4
            have c_R0_4 := cell_b c_R0_3 D4
            have c_R1_4 := cell_b c_R1_3 D4
            have c_R2_4 := cell_b c_R2_3 D4
            have f_R0_4 := (D4.frozen (p := ⟨w.heap.size + 1, 0, none⟩) (World.block_lt_of_cell? _ _ c_R0_3)).trans f_R0_3
            have f_R1_4 := (D4.frozen (p := ⟨w.heap.size + 1, 1, none⟩) (World.block_lt_of_cell? _ _ c_R1_3)).trans f_R1_3
            have f_R2_4 := (D4.frozen (p := ⟨w.heap.size + 1, 2, none⟩) (World.block_lt_of_cell? _ _ c_R2_3)).trans f_R2_3
            have T4 := Lib.hid (below_trans T3.out D4)
            have z4 : w3.heap.size ≤ w4.heap.size := (by have := hb.size; (try simp at this); omega)
            have o_d_4 := Lib.hid (own_base hd (show w3.heap.size ≤ _ by simp; try omega))
            have lo_d := Lib.hid (own_lo o_d_4.out)
            have hi_d := Lib.hid (own_hi o_d_4.out)
            have ac_A0_4 := fun o => cell_b c_A0_4 (below_alloc _ o)
            have bc_A0_4 := fun o o1 => cell_b (ac_A0_4 o) (below_alloc _ o1)
            have dc_A0_4 := fun o o1 o2 => cell_b (bc_A0_4 o o1) (below_alloc _ o2)
            have ac_A1_4 := fun o => cell_b c_A1_4 (below_alloc _ o)
            have bc_A1_4 := fun o o1 => cell_b (ac_A1_4 o) (below_alloc _ o1)
            have dc_A1_4 := fun o o1 o2 => cell_b (bc_A1_4 o o1) (below_alloc _ o2)
            have ac_A2_4 := fun o => cell_b c_A2_4 (below_alloc _ o)
            have bc_A2_4 := fun o o1 => cell_b (ac_A2_4 o) (below_alloc _ o1)
            have dc_A2_4 := fun o o1 o2 => cell_b (bc_A2_4 o o1) (below_alloc _ o2)
            have ac_R0_4 := fun o => cell_b c_R0_4 (below_alloc _ o)
            have bc_R0_4 := fun o o1 => cell_b (ac_R0_4 o) (below_alloc _ o1)
            have dc_R0_4 := fun o o1 o2 => cell_b (bc_R0_4 o o1) (below_alloc _ o2)
            have ac_R1_4 := fun o => cell_b c_R1_4 (below_alloc _ o)
            have bc_R1_4 := fun o o1 => cell_b (ac_R1_4 o) (below_alloc _ o1)
            have dc_R1_4 := fun o o1 o2 => cell_b (bc_R1_4 o o1) (below_alloc _ o2)
            have ac_R2_4 := fun o => cell_b c_R2_4 (below_alloc _ o)
            have bc_R2_4 := fun o o1 => cell_b (ac_R2_4 o) (below_alloc _ o1)
            have dc_R2_4 := fun o o1 o2 => cell_b (bc_R2_4 o o1) (below_alloc _ o2)
            have af_R0_4 := fun o => frz_b (cell_lt c_R0_4) f_R0_4 (below_alloc _ o)
            have bf_R0_4 := fun o o1 => frz_b (cell_lt (ac_R0_4 o)) (af_R0_4 o) (below_alloc _ o1)
            have df_R0_4 := fun o o1 o2 => frz_b (cell_lt (bc_R0_4 o o1)) (bf_R0_4 o o1) (below_alloc _ o2)
            have af_R1_4 := fun o => frz_b (cell_lt c_R1_4) f_R1_4 (below_alloc _ o)
            have bf_R1_4 := fun o o1 => frz_b (cell_lt (ac_R1_4 o)) (af_R1_4 o) (below_alloc _ o1)
            have df_R1_4 := fun o o1 o2 => frz_b (cell_lt (bc_R1_4 o o1)) (bf_R1_4 o o1) (below_alloc _ o2)
            have af_R2_4 := fun o => frz_b (cell_lt c_R2_4) f_R2_4 (below_alloc _ o)
            have bf_R2_4 := fun o o1 => frz_b (cell_lt (ac_R2_4 o)) (af_R2_4 o) (below_alloc _ o1)
            have df_R2_4 := fun o o1 o2 => frz_b (cell_lt (bc_R2_4 o o1)) (bf_R2_4 o o1) (below_alloc _ o2)
            clear ac_A0_3 bc_A0_3 dc_A0_3 ac_A1_3 bc_A1_3 dc_A1_3 ac_A2_3 bc_A2_3 dc_A2_3 ac_R0_3 bc_R0_3 dc_R0_3 ac_R1_3 bc_R1_3 dc_R1_3 ac_R2_3 bc_R2_3 dc_R2_3 af_R0_3 bf_R0_3 df_R0_3 af_R1_3 bf_R1_3 df_R1_3 af_R2_3 bf_R2_3 df_R2_3 c_A0_3 c_A1_3 c_A2_3 c_R0_3 c_R1_3 c_R2_3 f_R0_3 f_R1_3 f_R2_3 hb D4 hd T3
            have tok5 : True := trivial
            go_wp2_with (first | (at_builtin; have _t := tok5; refine wpList_append_own _ rfl _ _ 24 rfl (w3.heap.size) 3 i0 (.int .i64 0) 1 8 Try.underlying24 hi hz0 hz1 hz2 rfl (by decide) (.slice a4 xs.length cap4) (xs.length) (ints (xs)) rfl (own_below (o_d_4.out) (below_alloc _ _)) ⟨w4.heap.size, 0, none⟩ 1 1 [.int .i64 (t)] rfl rfl (cell_one_new _ _ _) (ints_oneCell .i64 [t]) (by unfold maxLen; omega) (by omega) (by simp; try omega) ?_; intro v5 w5 hown hgrow _; clear tok5; have ho : w5.ownsRow (w3.heap.size) 3 1 v5 (xs.length + 1) (ints (xs ++ [t])) := (by rw [ints_append]; exact hown); obtain ⟨a5, cap5, hv⟩ := own_shape ho; subst hv; have c_A0_5 := cell_gr (cell_b c_A0_4 (below_alloc _ _)) hgrow (fun g h => by have h1 := lo_d.out g h; have h2 := hi_d.out g h; show w.heap.size ≠ g; omega); have c_A1_5 := cell_gr (cell_b c_A1_4 (below_alloc _ _)) hgrow (fun g h => by have h1 := lo_d.out g h; have h2 := hi_d.out g h; show w.heap.size ≠ g; omega); have c_A2_5 := cell_gr (cell_b c_A2_4 (below_alloc _ _)) hgrow (fun g h => by have h1 := lo_d.out g h; have h2 := hi_d.out g h; show w.heap.size ≠ g; omega); have c_R0_5 := cell_gr (cell_b c_R0_4 (below_alloc _ _)) hgrow (fun g h => by have h1 := lo_d.out g h; have h2 := hi_d.out g h; show w.heap.size + 1 ≠ g; omega); have c_R1_5 := cell_gr (cell_b c_R1_4 (below_alloc _ _)) hgrow (fun g h => by have h1 := lo_d.out g h; have h2 := hi_d.out g h; show w.heap.size + 1 ≠ g; omega); have c_R2_5 := cell_gr (cell_b c_R2_4 (below_alloc _ _)) hgrow (fun g h => by have h1 := lo_d.out g h; have h2 := hi_d.out g h; show w.heap.size + 1 ≠ g; omega); have f_R0_5 := (frz_gr (p := ⟨w.heap.size + 1, 0, none⟩) (cell_lt (cell_b c_R0_4 (below_alloc _ _))) hgrow (fun g h => by have h1 := lo_d.out g h; have h2 := hi_d.out g h; show w.heap.size + 1 ≠ g; omega)).trans (frz_b (cell_lt c_R0_4) f_R0_4 (below_alloc _ _)); have f_R1_5 := (frz_gr (p := ⟨w.heap.size + 1, 1, none⟩) (cell_lt (cell_b c_R1_4 (below_alloc _ _))) hgrow (fun g h => by have h1 := lo_d.out g h; have h2 := hi_d.out g h; show w.heap.size + 1 ≠ g; omega)).trans (frz_b (cell_lt c_R1_4) f_R1_4 (below_alloc _ _)); have f_R2_5 := (frz_gr (p := ⟨w.heap.size + 1, 2, none⟩) (cell_lt (cell_b c_R2_4 (below_alloc _ _))) hgrow (fun g h => by have h1 := lo_d.out g h; have h2 := hi_d.out g h; show w.heap.size + 1 ≠ g; omega)).trans (frz_b (cell_lt c_R2_4) f_R2_4 (below_alloc _ _)); have z5 : w4.heap.size + 1 ≤ w5.heap.size := (by have := hgrow.size; (try simp at this); omega); have T5 := Lib.hid (below_gr (T4.out.trans ((below_alloc _ _ : Below w4.heap.size w4 _).mono T4.out.size)) (by have := T4.out.size; simp; try omega) hgrow (fun g h => by have h9 := T4.out.size; have h1 := lo_d.out g h; have h2 := hi_d.out g h; omega)); have o_e_5 := Lib.hid ho; have lo_e := Lib.hid (own_lo o_e_5.out); have hi_e := Lib.hid (own_hi o_e_5.out); have ac_A0_5 := fun o => cell_b c_A0_5 (below_alloc _ o); have bc_A0_5 := fun o o1 => cell_b (ac_A0_5 o) (below_alloc _ o1); have dc_A0_5 := fun o o1 o2 => cell_b (bc_A0_5 o o1) (below_alloc _ o2); have ac_A1_5 := fun o => cell_b c_A1_5 (below_alloc _ o); have bc_A1_5 := fun o o1 => cell_b (ac_A1_5 o) (below_alloc _ o1); have dc_A1_5 := fun o o1 o2 => cell_b (bc_A1_5 o o1) (below_alloc _ o2); have ac_A2_5 := fun o => cell_b c_A2_5 (below_alloc _ o); have bc_A2_5 := fun o o1 => cell_b (ac_A2_5 o) (below_alloc _ o1); have dc_A2_5 := fun o o1 o2 => cell_b (bc_A2_5 o o1) (below_alloc _ o2); have ac_R0_5 := fun o => cell_b c_R0_5 (below_alloc _ o); have bc_R0_5 := fun o o1 => cell_b (ac_R0_5 o) (below_alloc _ o1); have dc_R0_5 := fun o o1 o2 => cell_b (bc_R0_5 o o1) (below_alloc _ o2); have ac_R1_5 := fun o => cell_b c_R1_5 (below_alloc _ o); have bc_R1_5 := fun o o1 => cell_b (ac_R1_5 o) (below_alloc _ o1); have dc_R1_5 := fun o o1 o2 => cell_b (bc_R1_5 o o1) (below_alloc _ o2); have ac_R2_5 := fun o => cell_b c_R2_5 (below_alloc _ o); have bc_R2_5 := fun o o1 => cell_b (ac_R2_5 o) (below_alloc _ o1); have dc_R2_5 := fun o o1 o2 => cell_b (bc_R2_5 o o1) (below_alloc _ o2); have af_R0_5 := fun o => frz_b (cell_lt c_R0_5) f_R0_5 (below_alloc _ o); have bf_R0_5 := fun o o1 => frz_b (cell_lt (ac_R0_5 o)) (af_R0_5 o) (below_alloc _ o1); have df_R0_5 := fun o o1 o2 => frz_b (cell_lt (bc_R0_5 o o1)) (bf_R0_5 o o1) (below_alloc _ o2); have af_R1_5 := fun o => frz_b (cell_lt c_R1_5) f_R1_5 (below_alloc _ o); have bf_R1_5 := fun o o1 => frz_b (cell_lt (ac_R1_5 o)) (af_R1_5 o) (below_alloc _ o1); have df_R1_5 := fun o o1 o2 => frz_b (cell_lt (bc_R1_5 o o1)) (bf_R1_5 o o1) (below_alloc _ o2); have af_R2_5 := fun o => frz_b (cell_lt c_R2_5) f_R2_5 (below_alloc _ o); have bf_R2_5 := fun o o1 => frz_b (cell_lt (ac_R2_5 o)) (af_R2_5 o) (below_alloc _ o1); have df_R2_5 := fun o o1 o2 => frz_b (cell_lt (bc_R2_5 o o1)) (bf_R2_5 o o1) (below_alloc _ o2); clear hown hgrow ho T4 ac_A0_4 bc_A0_4 dc_A0_4 ac_A1_4 bc_A1_4 dc_A1_4 ac_A2_4 bc_A2_4 dc_A2_4 ac_R0_4 bc_R0_4 dc_R0_4 ac_R1_4 bc_R1_4 dc_R1_4 ac_R2_4 bc_R2_4 dc_R2_4 af_R0_4 bf_R0_4 df_R0_4 af_R1_4 bf_R1_4 df_R1_4 af_R2_4 bf_R2_4 df_R2_4 c_A0_4 c_A1_4 c_A2_4 c_R0_4 c_R1_4 c_R2_4 f_R0_4 f_R1_4 f_R2_4 o_d_4))
            go_wp2_with fail
            refine bodyPost_ret (v := .tuple #[.agg #[.int .i64 0, .int .i64 0, .slice none 0 0], .slice none 0 0, .bool false]) (by simp [results, Try.results16, go_sem, c_R0_5, c_R1_5, c_R2_5]) rfl ⟨_, _, _, _, rfl, ow_nil _ _, ow_nil _ _, ne_nil _ _ _, (((T5.out).setCell (by simp) _).setCell (by simp) _).setCell (by simp) _⟩
    · have ht' : thr t = false := by simpa using ht
      have harr : arr p r xs t = (0, 0, [], [], false) := by unfold arr; rw [hv, ht']; rfl
      simp only [harr]
      clear harr ht hd
      clear hr hnc
      go_enter Try.func16, Try.ntmps16
      have T0 := Lib.hid (Below.refl w.heap.size w)
      go_wp2_with fail
      refine (I_BarrierValid _ p r _ xs (rd_alloc (rd_alloc (rd_below HR.out T0.out) _) _) (by omega)).mono ?_
      rintro e w1 ⟨rfl, hb⟩
      have D1 : Below w.heap.size w w1 := below_trans (below_alloc _ _) (below_trans (below_alloc _ _) (hb))
      have T1 := Lib.hid (below_trans T0.out D1)
      have z1 : w.heap.size + 2 ≤ w1.heap.size := (by have := hb.size; (try simp at this); omega)
      have c_A0_1 := cell_b (p := ⟨w.heap.size, 0, none⟩) (v := .int .i64 p) (by simp) hb
      have c_A1_1 := cell_b (p := ⟨w.heap.size, 1, none⟩) (v := .int .i64 r) (by simp) hb
      have c_A2_1 := cell_b (p := ⟨w.heap.size, 2, none⟩) (v := .slice a xs.length cap) (by simp) hb
      have c_R0_1 := cell_b (p := ⟨w.heap.size + 1, 0, none⟩) (v := .int .i64 0) (by simp) hb
      have f_R0_1 : w1.frozen? ⟨w.heap.size + 1, 0, none⟩ = false := (hb.frozen (p := ⟨w.heap.size + 1, 0, none⟩) (by simp; try omega)).trans (by simp)
      have c_R1_1 := cell_b (p := ⟨w.heap.size + 1, 1, none⟩) (v := .int .i64 0) (by simp) hb
      have f_R1_1 : w1.frozen? ⟨w.heap.size + 1, 1, none⟩ = false := (hb.frozen (p := ⟨w.heap.size + 1, 1, none⟩) (by simp; try omega)).trans (by simp)
      have c_R2_1 := cell_b (p := ⟨w.heap.size + 1, 2, none⟩) (v := .slice none 0 0) (by simp) hb
      have f_R2_1 : w1.frozen? ⟨w.heap.size + 1, 2, none⟩ = false := (hb.frozen (p := ⟨w.heap.size + 1, 2, none⟩) (by simp; try omega)).trans (by simp)
      have ac_A0_1 := fun o => cell_b c_A0_1 (below_alloc _ o)
      have bc_A0_1 := fun o o1 => cell_b (ac_A0_1 o) (below_alloc _ o1)
      have dc_A0_1 := fun o o1 o2 => cell_b (bc_A0_1 o o1) (below_alloc _ o2)
      have ac_A1_1 := fun o => cell_b c_A1_1 (below_alloc _ o)
      have bc_A1_1 := fun o o1 => cell_b (ac_A1_1 o) (below_alloc _ o1)
      have dc_A1_1 := fun o o1 o2 => cell_b (bc_A1_1 o o1) (below_alloc _ o2)
      have ac_A2_1 := fun o => cell_b c_A2_1 (below_alloc _ o)
      have bc_A2_1 := fun o o1 => cell_b (ac_A2_1 o) (below_alloc _ o1)
      have dc_A2_1 := fun o o1 o2 => cell_b (bc_A2_1 o o1) (below_alloc _ o2)
      have ac_R0_1 := fun o => cell_b c_R0_1 (below_alloc _ o)
      have bc_R0_1 := fun o o1 => cell_b (ac_R0_1 o) (below_alloc _ o1)
      have dc_R0_1 := fun o o1 o2 => cell_b (bc_R0_1 o o1) (below_alloc _ o2)
      have ac_R1_1 := fun o => cell_b c_R1_1 (below_alloc _ o)
      have bc_R1_1 := fun o o1 => cell_b (ac_R1_1 o) (below_alloc _ o1)
      have dc_R1_1 := fun o o1 o2 => cell_b (bc_R1_1 o o1) (below_alloc _ o2)
      have ac_R2_1 := fun o => cell_b c_R2_1 (below_alloc _ o)
      have bc_R2_1 := fun o o1 => cell_b (ac_R2_1 o) (below_alloc _ o1)
      have dc_R2_1 := fun o o1 o2 => cell_b (bc_R2_1 o o1) (below_alloc _ o2)
      have af_R0_1 := fun o => frz_b (cell_lt c_R0_1) f_R0_1 (below_alloc _ o)
      have bf_R0_1 := fun o o1 => frz_b (cell_lt (ac_R0_1 o)) (af_R0_1 o) (below_alloc _ o1)
      have df_R0_1 := fun o o1 o2 => frz_b (cell_lt (bc_R0_1 o o1)) (bf_R0_1 o o1) (below_alloc _ o2)
      have af_R1_1 := fun o => frz_b (cell_lt c_R1_1) f_R1_1 (below_alloc _ o)
      have bf_R1_1 := fun o o1 => frz_b (cell_lt (ac_R1_1 o)) (af_R1_1 o) (below_alloc _ o1)
      have df_R1_1 := fun o o1 o2 => frz_b (cell_lt (bc_R1_1 o o1)) (bf_R1_1 o o1) (below_alloc _ o2)
      have af_R2_1 := fun o => frz_b (cell_lt c_R2_1) f_R2_1 (below_alloc _ o)
      have bf_R2_1 := fun o o1 => frz_b (cell_lt (ac_R2_1 o)) (af_R2_1 o) (below_alloc _ o1)
      have df_R2_1 := fun o o1 o2 => frz_b (cell_lt (bc_R2_1 o o1)) (bf_R2_1 o o1) (below_alloc _ o2)
      clear hb D1 T0
      go_wp2_with fail
      refine (same_b (I_isThread _ t)).mono ?_
      rintro e w2 ⟨rfl, hb⟩
      have D2 : Below w1.heap.size w1 w2 := hb
      have c_A0_2 := cell_b c_A0_1 D2
      have c_A1_2 := cell_b c_A1_1 D2
      have c_A2_2 := cell_b c_A2_1 D2
      have c_R0_2 := cell_b c_R0_1 D2
      have c_R1_2 := cell_b c_R1_1 D2
      have c_R2_2 := cell_b c_R2_1 D2
      have f_R0_2 := (D2.frozen (p := ⟨w.heap.size + 1, 0, none⟩) (World.block_lt_of_cell? _ _ c_R0_1)).trans f_R0_1
      have f_R1_2 := (D2.frozen (p := ⟨w.heap.size + 1, 1, none⟩) (World.block_lt_of_cell? _ _ c_R1_1)).trans f_R1_1
      have f_R2_2 := (D2.frozen (p := ⟨w.heap.size + 1, 2, none⟩) (World.block_lt_of_cell? _ _ c_R2_1)).trans f_R2_1
      have T2 := Lib.hid (below_trans T1.out D2)
      have z2 : w1.heap.size ≤ w2.heap.size := (by have := hb.size; (try simp at this); omega)
      have ac_A0_2 := fun o => cell_b c_A0_2 (below_alloc _ o)
      have bc_A0_2 := fun o o1 => cell_b (ac_A0_2 o) (below_alloc _ o1)
      have dc_A0_2 := fun o o1 o2 => cell_b (bc_A0_2 o o1) (below_alloc _ o2)
      have ac_A1_2 := fun o => cell_b c_A1_2 (below_alloc _ o)
      have bc_A1_2 := fun o o1 => cell_b (ac_A1_2 o) (below_alloc _ o1)
      have dc_A1_2 := fun o o1 o2 => cell_b (bc_A1_2 o o1) (below_alloc _ o2)
      have ac_A2_2 := fun o => cell_b c_A2_2 (below_alloc _ o)
      have bc_A2_2 := fun o o1 => cell_b (ac_A2_2 o) (below_alloc _ o1)
      have dc_A2_2 := fun o o1 o2 => cell_b (bc_A2_2 o o1) (below_alloc _ o2)
      have ac_R0_2 := fun o => cell_b c_R0_2 (below_alloc _ o)
      have bc_R0_2 := fun o o1 => cell_b (ac_R0_2 o) (below_alloc _ o1)
      have dc_R0_2 := fun o o1 o2 => cell_b (bc_R0_2 o o1) (below_alloc _ o2)
      have ac_R1_2 := fun o => cell_b c_R1_2 (below_alloc _ o)
      have bc_R1_2 := fun o o1 => cell_b (ac_R1_2 o) (below_alloc _ o1)
      have dc_R1_2 := fun o o1 o2 => cell_b (bc_R1_2 o o1) (below_alloc _ o2)
      have ac_R2_2 := fun o => cell_b c_R2_2 (below_alloc _ o)
      have bc_R2_2 := fun o o1 => cell_b (ac_R2_2 o) (below_alloc _ o1)
      have dc_R2_2 := fun o o1 o2 => cell_b (bc_R2_2 o o1) (below_alloc _ o2)
      have af_R0_2 := fun o => frz_b (cell_lt c_R0_2) f_R0_2 (below_alloc _ o)
      have bf_R0_2 := fun o o1 => frz_b (cell_lt (ac_R0_2 o)) (af_R0_2 o) (below_alloc _ o1)
      have df_R0_2 := fun o o1 o2 => frz_b (cell_lt (bc_R0_2 o o1)) (bf_R0_2 o o1) (below_alloc _ o2)
      have af_R1_2 := fun o => frz_b (cell_lt c_R1_2) f_R1_2 (below_alloc _ o)
      have bf_R1_2 := fun o o1 => frz_b (cell_lt (ac_R1_2 o)) (af_R1_2 o) (below_alloc _ o1)
      have df_R1_2 := fun o o1 o2 => frz_b (cell_lt (bc_R1_2 o o1)) (bf_R1_2 o o1) (below_alloc _ o2)
      have af_R2_2 := fun o => frz_b (cell_lt c_R2_2) f_R2_2 (below_alloc _ o)
      have bf_R2_2 := fun o o1 => frz_b (cell_lt (ac_R2_2 o)) (af_R2_2 o) (below_alloc _ o1)
      have df_R2_2 := fun o o1 o2 => frz_b (cell_lt (bc_R2_2 o o1)) (bf_R2_2 o o1) (below_alloc _ o2)
      clear ac_A0_1 bc_A0_1 dc_A0_1 ac_A1_1 bc_A1_1 dc_A1_1 ac_A2_1 bc_A2_1 dc_A2_1 ac_R0_1 bc_R0_1 dc_R0_1 ac_R1_1 bc_R1_1 dc_R1_1 ac_R2_1 bc_R2_1 dc_R2_1 af_R0_1 bf_R0_1 df_R0_1 af_R1_1 bf_R1_1 df_R1_1 af_R2_1 bf_R2_1 df_R2_1 c_A0_1 c_A1_1 c_A2_1 c_R0_1 c_R1_1 c_R2_1 f_R0_1 f_R1_1 f_R2_1 hb D2 T1
      go_wp2_with fail
      refine bodyPost_ret (v := .tuple #[.agg #[.int .i64 0, .int .i64 0, .slice none 0 0], .slice none 0 0, .bool false]) (by simp [results, Try.results16, go_sem, c_R0_2, c_R1_2, c_R2_2]) rfl ⟨_, _, _, _, rfl, ow_nil _ _, ow_nil _ _, ne_nil _ _ _, (((T2.out).setCell (by simp) _).setCell (by simp) _).setCell (by simp) _⟩
  · have hv' : bval p r xs = false := by simpa using hv
    have harr : arr p r xs t = (0, 0, [], [], false) := by unfold arr; rw [hv']; rfl
    simp only [harr]
    clear harr hv
    clear hr hnc
    go_enter Try.func16, Try.ntmps16
    have T0 := Lib.hid (Below.refl w.heap.size w)
    go_wp2_with fail
    refine (I_BarrierValid _ p r _ xs (rd_alloc (rd_alloc (rd_below HR.out T0.out) _) _) (by omega)).mono ?_
    rintro e w1 ⟨rfl, hb⟩
    have D1 : Below w.heap.size w w1 := below_trans (below_alloc _ _) (below_trans (below_alloc _ _) (hb))
    have T1 := Lib.hid (below_trans T0.out D1)
    have z1 : w.heap.size + 2 ≤ w1.heap.size := (by have := hb.size; (try simp at this); omega)
    have c_A0_1 := cell_b (p := ⟨w.heap.size, 0, none⟩) (v := .int .i64 p) (by simp) hb
    have c_A1_1 := cell_b (p := ⟨w.heap.size, 1, none⟩) (v := .int .i64 r) (by simp) hb
    have c_A2_1 := cell_b (p := ⟨w.heap.size, 2, none⟩) (v := .slice a xs.length cap) (by simp) hb
    have c_R0_1 := cell_b (p := ⟨w.heap.size + 1, 0, none⟩) (v := .int .i64 0) (by simp) hb
    have f_R0_1 : w1.frozen? ⟨w.heap.size + 1, 0, none⟩ = false := (hb.frozen (p := ⟨w.heap.size + 1, 0, none⟩) (by simp; try omega)).trans (by simp)
    have c_R1_1 := cell_b (p := ⟨w.heap.size + 1, 1, none⟩) (v := .int .i64 0) (by simp) hb
    have f_R1_1 : w1.frozen? ⟨w.heap.size + 1, 1, none⟩ = false := (hb.frozen (p := ⟨w.heap.size + 1, 1, none⟩) (by simp; try omega)).trans (by simp)
    have c_R2_1 := cell_b (p := ⟨w.heap.size + 1, 2, none⟩) (v := .slice none 0 0) (by simp) hb
    have f_R2_1 : w1.frozen? ⟨w.heap.size + 1, 2, none⟩ = false := (hb.frozen (p := ⟨w.heap.size + 1, 2, none⟩) (by simp; try omega)).trans (by simp)
    have ac_A0_1 := fun o => cell_b c_A0_1 (below_alloc _ o)
    have bc_A0_1 := fun o o1 => cell_b (ac_A0_1 o) (below_alloc _ o1)
    have dc_A0_1 := fun o o1 o2 => cell_b (bc_A0_1 o o1) (below_alloc _ o2)
    have ac_A1_1 := fun o => cell_b c_A1_1 (below_alloc _ o)
    have bc_A1_1 := fun o o1 => cell_b (ac_A1_1 o) (below_alloc _ o1)
    have dc_A1_1 := fun o o1 o2 => cell_b (bc_A1_1 o o1) (below_alloc _ o2)
    have ac_A2_1 := fun o => cell_b c_A2_1 (below_alloc _ o)
    have bc_A2_1 := fun o o1 => cell_b (ac_A2_1 o) (below_alloc _ o1)
    have dc_A2_1 := fun o o1 o2 => cell_b (bc_A2_1 o o1) (below_alloc _ o2)
    have ac_R0_1 := fun o => cell_b c_R0_1 (below_alloc _ o)
    have bc_R0_1 := fun o o1 => cell_b (ac_R0_1 o) (below_alloc _ o1)
    have dc_R0_1 := fun o o1 o2 => cell_b (bc_R0_1 o o1) (below_alloc _ o2)
    have ac_R1_1 := fun o => cell_b c_R1_1 (below_alloc _ o)
    have bc_R1_1 := fun o o1 => cell_b (ac_R1_1 o) (below_alloc _ o1)
    have dc_R1_1 := fun o o1 o2 => cell_b (bc_R1_1 o o1) (below_alloc _ o2)
    have ac_R2_1 := fun o => cell_b c_R2_1 (below_alloc _ o)
    have bc_R2_1 := fun o o1 => cell_b (ac_R2_1 o) (below_alloc _ o1)
    have dc_R2_1 := fun o o1 o2 => cell_b (bc_R2_1 o o1) (below_alloc _ o2)
    have af_R0_1 := fun o => frz_b (cell_lt c_R0_1) f_R0_1 (below_alloc _ o)
    have bf_R0_1 := fun o o1 => frz_b (cell_lt (ac_R0_1 o)) (af_R0_1 o) (below_alloc _ o1)
    have df_R0_1 := fun o o1 o2 => frz_b (cell_lt (bc_R0_1 o o1)) (bf_R0_1 o o1) (below_alloc _ o2)
    have af_R1_1 := fun o => frz_b (cell_lt c_R1_1) f_R1_1 (below_alloc _ o)
    have bf_R1_1 := fun o o1 => frz_b (cell_lt (ac_R1_1 o)) (af_R1_1 o) (below_alloc _ o1)
    have df_R1_1 := fun o o1 o2 => frz_b (cell_lt (bc_R1_1 o o1)) (bf_R1_1 o o1) (below_alloc _ o2)
    have af_R2_1 := fun o => frz_b (cell_lt c_R2_1) f_R2_1 (below_alloc _ o)
    have bf_R2_1 := fun o o1 => frz_b (cell_lt (ac_R2_1 o)) (af_R2_1 o) (below_alloc _ o1)
    have df_R2_1 := fun o o1 o2 => frz_b (cell_lt (bc_R2_1 o o1)) (bf_R2_1 o o1) (below_alloc _ o2)
    clear hb D1 T0
    go_wp2_with fail
    refine bodyPost_ret (v := .tuple #[.agg #[.int .i64 0, .int .i64 0, .slice none 0 0], .slice none 0 0, .bool false]) (by simp [results, Try.results16, go_sem, c_R0_1, c_R1_1, c_R2_1]) rfl ⟨_, _, _, _, rfl, ow_nil _ _, ow_nil _ _, ne_nil _ _ _, (((T1.out).setCell (by simp) _).setCell (by simp) _).setCell (by simp) _⟩

set_option maxHeartbeats 2000000 in
set_option maxRecDepth 100000 in
theorem S_Arrive (w : World) (p r : Int) (v : Value) (xs : List Int) (t : Int) (hr : Rd w v xs) (hl : xs.length ≤ 4294967296) :
    Calls Try.prog 33 #[.agg #[.int .i64 p, .int .i64 r, v], .int .i64 t] w fun e w' => ∃ a cap b cap', e = .returned (.tuple #[.agg #[.int .i64 (arr p r xs t).1, .int .i64 (arr p r xs t).2.1, .slice a (arr p r xs t).2.2.1.length cap], .slice b (arr p r xs t).2.2.2.1.length cap', .bool (arr p r xs t).2.2.2.2]) ∧
      Ow w' w.heap.size (.slice a (arr p r xs t).2.2.1.length cap) (arr p r xs t).2.2.1 ∧ Ow w' w.heap.size (.slice b (arr p r xs t).2.2.2.1.length cap') (arr p r xs t).2.2.2.1 ∧
      NE (.slice a (arr p r xs t).2.2.1.length cap) (.slice b (arr p r xs t).2.2.2.1.length cap') ∧ Below w.heap.size w w' := by
  obtain ⟨i0, hi, hz0, hz1, hz2⟩ := info_parts info3
  have HR := Lib.hid hr
  obtain ⟨a, cap, rfl, hcap, hnc, hr⟩ := hr
  by_cases hv : bval p r xs = true
  · have hbi := bval_in hv
    obtain ⟨h1, h2, h3, h4, h5, hd⟩ := hbi
    have hl6 : xs.length ≤ 6 := by omega
    by_cases ht : thr t = true
    · by_cases hh : hasB xs t = true
      · have harr : arr p r xs t = (0, 0, [], [], false) := by unfold arr; rw [hv, ht, hh]; rfl
        have hat := hasB_at xs t
        rw [hh] at hat
        simp only [harr]
        clear harr hd
        clear hr hnc
        go_enter Try.func33, Try.ntmps33
        have T0 := Lib.hid (Below.refl w.heap.size w)
        go_wp2_with fail
        refine (S_BarrierValid _ p r _ xs (rd_alloc (rd_alloc (rd_below HR.out T0.out) _) _) (by omega)).mono ?_
        rintro e w1 ⟨rfl, hb⟩
        have D1 : Below w.heap.size w w1 := below_trans (below_alloc _ _) (below_trans (below_alloc _ _) (hb))
        have T1 := Lib.hid (below_trans T0.out D1)
        have z1 : w.heap.size + 2 ≤ w1.heap.size := (by have := hb.size; (try simp at this); omega)
        have c_A0_1 := cell_b (p := ⟨w.heap.size, 0, none⟩) (v := .int .i64 p) (by simp) hb
        have c_A1_1 := cell_b (p := ⟨w.heap.size, 1, none⟩) (v := .int .i64 r) (by simp) hb
        have c_A2_1 := cell_b (p := ⟨w.heap.size, 2, none⟩) (v := .slice a xs.length cap) (by simp) hb
        have c_R0_1 := cell_b (p := ⟨w.heap.size + 1, 0, none⟩) (v := .int .i64 0) (by simp) hb
        have f_R0_1 : w1.frozen? ⟨w.heap.size + 1, 0, none⟩ = false := (hb.frozen (p := ⟨w.heap.size + 1, 0, none⟩) (by simp; try omega)).trans (by simp)
        have c_R1_1 := cell_b (p := ⟨w.heap.size + 1, 1, none⟩) (v := .int .i64 0) (by simp) hb
        have f_R1_1 : w1.frozen? ⟨w.heap.size + 1, 1, none⟩ = false := (hb.frozen (p := ⟨w.heap.size + 1, 1, none⟩) (by simp; try omega)).trans (by simp)
        have c_R2_1 := cell_b (p := ⟨w.heap.size + 1, 2, none⟩) (v := .slice none 0 0) (by simp) hb
        have f_R2_1 : w1.frozen? ⟨w.heap.size + 1, 2, none⟩ = false := (hb.frozen (p := ⟨w.heap.size + 1, 2, none⟩) (by simp; try omega)).trans (by simp)
        have ac_A0_1 := fun o => cell_b c_A0_1 (below_alloc _ o)
        have bc_A0_1 := fun o o1 => cell_b (ac_A0_1 o) (below_alloc _ o1)
        have dc_A0_1 := fun o o1 o2 => cell_b (bc_A0_1 o o1) (below_alloc _ o2)
        have ac_A1_1 := fun o => cell_b c_A1_1 (below_alloc _ o)
        have bc_A1_1 := fun o o1 => cell_b (ac_A1_1 o) (below_alloc _ o1)
        have dc_A1_1 := fun o o1 o2 => cell_b (bc_A1_1 o o1) (below_alloc _ o2)
        have ac_A2_1 := fun o => cell_b c_A2_1 (below_alloc _ o)
        have bc_A2_1 := fun o o1 => cell_b (ac_A2_1 o) (below_alloc _ o1)
        have dc_A2_1 := fun o o1 o2 => cell_b (bc_A2_1 o o1) (below_alloc _ o2)
        have ac_R0_1 := fun o => cell_b c_R0_1 (below_alloc _ o)
        have bc_R0_1 := fun o o1 => cell_b (ac_R0_1 o) (below_alloc _ o1)
        have dc_R0_1 := fun o o1 o2 => cell_b (bc_R0_1 o o1) (below_alloc _ o2)
        have ac_R1_1 := fun o => cell_b c_R1_1 (below_alloc _ o)
        have bc_R1_1 := fun o o1 => cell_b (ac_R1_1 o) (below_alloc _ o1)
        have dc_R1_1 := fun o o1 o2 => cell_b (bc_R1_1 o o1) (below_alloc _ o2)
        have ac_R2_1 := fun o => cell_b c_R2_1 (below_alloc _ o)
        have bc_R2_1 := fun o o1 => cell_b (ac_R2_1 o) (below_alloc _ o1)
        have dc_R2_1 := fun o o1 o2 => cell_b (bc_R2_1 o o1) (below_alloc _ o2)
        have af_R0_1 := fun o => frz_b (cell_lt c_R0_1) f_R0_1 (below_alloc _ o)
        have bf_R0_1 := fun o o1 => frz_b (cell_lt (ac_R0_1 o)) (af_R0_1 o) (below_alloc _ o1)
        have df_R0_1 := fun o o1 o2 => frz_b (cell_lt (bc_R0_1 o o1)) (bf_R0_1 o o1) (below_alloc _ o2)
        have af_R1_1 := fun o => frz_b (cell_lt c_R1_1) f_R1_1 (below_alloc _ o)
        have bf_R1_1 := fun o o1 => frz_b (cell_lt (ac_R1_1 o)) (af_R1_1 o) (below_alloc _ o1)
        have df_R1_1 := fun o o1 o2 => frz_b (cell_lt (bc_R1_1 o o1)) (bf_R1_1 o o1) (below_alloc _ o2)
        have af_R2_1 := fun o => frz_b (cell_lt c_R2_1) f_R2_1 (below_alloc _ o)
        have bf_R2_1 := fun o o1 => frz_b (cell_lt (ac_R2_1 o)) (af_R2_1 o) (below_alloc _ o1)
        have df_R2_1 := fun o o1 o2 => frz_b (cell_lt (bc_R2_1 o o1)) (bf_R2_1 o o1) (below_alloc _ o2)
        clear hb D1 T0
        go_wp2_with fail
        refine (same_b (S_l1Thread _ t)).mono ?_
        rintro e w2 ⟨rfl, hb⟩
        have D2 : Below w1.heap.size w1 w2 := hb
        have c_A0_2 := cell_b c_A0_1 D2
        have c_A1_2 := cell_b c_A1_1 D2
        have c_A2_2 := cell_b c_A2_1 D2
        have c_R0_2 := cell_b c_R0_1 D2
        have c_R1_2 := cell_b c_R1_1 D2
        have c_R2_2 := cell_b c_R2_1 D2
        have f_R0_2 := (D2.frozen (p := ⟨w.heap.size + 1, 0, none⟩) (World.block_lt_of_cell? _ _ c_R0_1)).trans f_R0_1
        have f_R1_2 := (D2.frozen (p := ⟨w.heap.size + 1, 1, none⟩) (World.block_lt_of_cell? _ _ c_R1_1)).trans f_R1_1
        have f_R2_2 := (D2.frozen (p := ⟨w.heap.size + 1, 2, none⟩) (World.block_lt_of_cell? _ _ c_R2_1)).trans f_R2_1
        have T2 := Lib.hid (below_trans T1.out D2)
        have z2 : w1.heap.size ≤ w2.heap.size := (by have := hb.size; (try simp at this); omega)
        have ac_A0_2 := fun o => cell_b c_A0_2 (below_alloc _ o)
        have bc_A0_2 := fun o o1 => cell_b (ac_A0_2 o) (below_alloc _ o1)
        have dc_A0_2 := fun o o1 o2 => cell_b (bc_A0_2 o o1) (below_alloc _ o2)
        have ac_A1_2 := fun o => cell_b c_A1_2 (below_alloc _ o)
        have bc_A1_2 := fun o o1 => cell_b (ac_A1_2 o) (below_alloc _ o1)
        have dc_A1_2 := fun o o1 o2 => cell_b (bc_A1_2 o o1) (below_alloc _ o2)
        have ac_A2_2 := fun o => cell_b c_A2_2 (below_alloc _ o)
        have bc_A2_2 := fun o o1 => cell_b (ac_A2_2 o) (below_alloc _ o1)
        have dc_A2_2 := fun o o1 o2 => cell_b (bc_A2_2 o o1) (below_alloc _ o2)
        have ac_R0_2 := fun o => cell_b c_R0_2 (below_alloc _ o)
        have bc_R0_2 := fun o o1 => cell_b (ac_R0_2 o) (below_alloc _ o1)
        have dc_R0_2 := fun o o1 o2 => cell_b (bc_R0_2 o o1) (below_alloc _ o2)
        have ac_R1_2 := fun o => cell_b c_R1_2 (below_alloc _ o)
        have bc_R1_2 := fun o o1 => cell_b (ac_R1_2 o) (below_alloc _ o1)
        have dc_R1_2 := fun o o1 o2 => cell_b (bc_R1_2 o o1) (below_alloc _ o2)
        have ac_R2_2 := fun o => cell_b c_R2_2 (below_alloc _ o)
        have bc_R2_2 := fun o o1 => cell_b (ac_R2_2 o) (below_alloc _ o1)
        have dc_R2_2 := fun o o1 o2 => cell_b (bc_R2_2 o o1) (below_alloc _ o2)
        have af_R0_2 := fun o => frz_b (cell_lt c_R0_2) f_R0_2 (below_alloc _ o)
        have bf_R0_2 := fun o o1 => frz_b (cell_lt (ac_R0_2 o)) (af_R0_2 o) (below_alloc _ o1)
        have df_R0_2 := fun o o1 o2 => frz_b (cell_lt (bc_R0_2 o o1)) (bf_R0_2 o o1) (below_alloc _ o2)
        have af_R1_2 := fun o => frz_b (cell_lt c_R1_2) f_R1_2 (below_alloc _ o)
        have bf_R1_2 := fun o o1 => frz_b (cell_lt (ac_R1_2 o)) (af_R1_2 o) (below_alloc _ o1)
        have df_R1_2 := fun o o1 o2 => frz_b (cell_lt (bc_R1_2 o o1)) (bf_R1_2 o o1) (below_alloc _ o2)
        have af_R2_2 := fun o => frz_b (cell_lt c_R2_2) f_R2_2 (below_alloc _ o)
        have bf_R2_2 := fun o o1 => frz_b (cell_lt (ac_R2_2 o)) (af_R2_2 o) (below_alloc _ o1)
        have df_R2_2 := fun o o1 o2 => frz_b (cell_lt (bc_R2_2 o o1)) (bf_R2_2 o o1) (below_alloc _ o2)
        clear ac_A0_1 bc_A0_1 dc_A0_1 ac_A1_1 bc_A1_1 dc_A1_1 ac_A2_1 bc_A2_1 dc_A2_1 ac_R0_1 bc_R0_1 dc_R0_1 ac_R1_1 bc_R1_1 dc_R1_1 ac_R2_1 bc_R2_1 dc_R2_1 af_R0_1 bf_R0_1 df_R0_1 af_R1_1 bf_R1_1 df_R1_1 af_R2_1 bf_R2_1 df_R2_1 c_A0_1 c_A1_1 c_A2_1 c_R0_1 c_R1_1 c_R2_1 f_R0_1 f_R1_1 f_R2_1 hb D2 T1
        go_wp2_with fail
        refine (same_b (S_l2At _ _ xs t (rd_below HR.out T2.out) (by omega))).mono ?_
        rintro e w3 ⟨rfl, hb⟩
        have D3 : Below w2.heap.size w2 w3 := hb
        have c_A0_3 := cell_b c_A0_2 D3
        have c_A1_3 := cell_b c_A1_2 D3
        have c_A2_3 := cell_b c_A2_2 D3
        have c_R0_3 := cell_b c_R0_2 D3
        have c_R1_3 := cell_b c_R1_2 D3
        have c_R2_3 := cell_b c_R2_2 D3
        have f_R0_3 := (D3.frozen (p := ⟨w.heap.size + 1, 0, none⟩) (World.block_lt_of_cell? _ _ c_R0_2)).trans f_R0_2
        have f_R1_3 := (D3.frozen (p := ⟨w.heap.size + 1, 1, none⟩) (World.block_lt_of_cell? _ _ c_R1_2)).trans f_R1_2
        have f_R2_3 := (D3.frozen (p := ⟨w.heap.size + 1, 2, none⟩) (World.block_lt_of_cell? _ _ c_R2_2)).trans f_R2_2
        have T3 := Lib.hid (below_trans T2.out D3)
        have z3 : w2.heap.size ≤ w3.heap.size := (by have := hb.size; (try simp at this); omega)
        have ac_A0_3 := fun o => cell_b c_A0_3 (below_alloc _ o)
        have bc_A0_3 := fun o o1 => cell_b (ac_A0_3 o) (below_alloc _ o1)
        have dc_A0_3 := fun o o1 o2 => cell_b (bc_A0_3 o o1) (below_alloc _ o2)
        have ac_A1_3 := fun o => cell_b c_A1_3 (below_alloc _ o)
        have bc_A1_3 := fun o o1 => cell_b (ac_A1_3 o) (below_alloc _ o1)
        have dc_A1_3 := fun o o1 o2 => cell_b (bc_A1_3 o o1) (below_alloc _ o2)
        have ac_A2_3 := fun o => cell_b c_A2_3 (below_alloc _ o)
        have bc_A2_3 := fun o o1 => cell_b (ac_A2_3 o) (below_alloc _ o1)
        have dc_A2_3 := fun o o1 o2 => cell_b (bc_A2_3 o o1) (below_alloc _ o2)
        have ac_R0_3 := fun o => cell_b c_R0_3 (below_alloc _ o)
        have bc_R0_3 := fun o o1 => cell_b (ac_R0_3 o) (below_alloc _ o1)
        have dc_R0_3 := fun o o1 o2 => cell_b (bc_R0_3 o o1) (below_alloc _ o2)
        have ac_R1_3 := fun o => cell_b c_R1_3 (below_alloc _ o)
        have bc_R1_3 := fun o o1 => cell_b (ac_R1_3 o) (below_alloc _ o1)
        have dc_R1_3 := fun o o1 o2 => cell_b (bc_R1_3 o o1) (below_alloc _ o2)
        have ac_R2_3 := fun o => cell_b c_R2_3 (below_alloc _ o)
        have bc_R2_3 := fun o o1 => cell_b (ac_R2_3 o) (below_alloc _ o1)
        have dc_R2_3 := fun o o1 o2 => cell_b (bc_R2_3 o o1) (below_alloc _ o2)
        have af_R0_3 := fun o => frz_b (cell_lt c_R0_3) f_R0_3 (below_alloc _ o)
        have bf_R0_3 := fun o o1 => frz_b (cell_lt (ac_R0_3 o)) (af_R0_3 o) (below_alloc _ o1)
        have df_R0_3 := fun o o1 o2 => frz_b (cell_lt (bc_R0_3 o o1)) (bf_R0_3 o o1) (below_alloc _ o2)
        have af_R1_3 := fun o => frz_b (cell_lt c_R1_3) f_R1_3 (below_alloc _ o)
        have bf_R1_3 := fun o o1 => frz_b (cell_lt (ac_R1_3 o)) (af_R1_3 o) (below_alloc _ o1)
        have df_R1_3 := fun o o1 o2 => frz_b (cell_lt (bc_R1_3 o o1)) (bf_R1_3 o o1) (below_alloc _ o2)
        have af_R2_3 := fun o => frz_b (cell_lt c_R2_3) f_R2_3 (below_alloc _ o)
        have bf_R2_3 := fun o o1 => frz_b (cell_lt (ac_R2_3 o)) (af_R2_3 o) (below_alloc _ o1)
        have df_R2_3 := fun o o1 o2 => frz_b (cell_lt (bc_R2_3 o o1)) (bf_R2_3 o o1) (below_alloc _ o2)
        clear ac_A0_2 bc_A0_2 dc_A0_2 ac_A1_2 bc_A1_2 dc_A1_2 ac_A2_2 bc_A2_2 dc_A2_2 ac_R0_2 bc_R0_2 dc_R0_2 ac_R1_2 bc_R1_2 dc_R1_2 ac_R2_2 bc_R2_2 dc_R2_2 af_R0_2 bf_R0_2 df_R0_2 af_R1_2 bf_R1_2 df_R1_2 af_R2_2 bf_R2_2 df_R2_2 c_A0_2 c_A1_2 c_A2_2 c_R0_2 c_R1_2 c_R2_2 f_R0_2 f_R1_2 f_R2_2 hb D3 T2
        go_wp2_with fail
        refine bodyPost_ret (v := .tuple #[.agg #[.int .i64 0, .int .i64 0, .slice none 0 0], .slice (some ⟨w3.heap.size, 0, none⟩) 0 0, .bool false]) (by simp [results, Try.results33, go_sem, ac_R0_3, ac_R1_3, ac_R2_3]) rfl ⟨_, _, _, _, rfl, ow_nil _ _, ?_, ne_nil _ _ _, ((((T3.out.alloc T3.out.size _)).setCell (by simp) _).setCell (by simp) _).setCell (by simp) _⟩
        refine own_base (b := w3.heap.size) ?_ (by omega)
        repeat (first | exact (ow_made w3 _ (Nat.le_refl _)) | refine ownsRow_setCell_below ?_ (by show _ + 1 < _; omega) _)
      · have hh' : hasB xs t = false := by simpa using hh
        have hat := hasB_at xs t
        rw [hh'] at hat
        clear hh hd
        by_cases hp : (xs.length : Int) + 1 < p
        · have harr : arr p r xs t = (p, r, xs ++ [t], [], true) := by unfold arr; rw [hv, ht, hh']; rw [if_pos (by rfl), if_pos hp]
          simp only [harr, List.length_append]
          clear harr
          clear hr hnc
          go_enter Try.func33, Try.ntmps33
          have T0 := Lib.hid (Below.refl w.heap.size w)
          go_wp2_with fail
          refine (S_BarrierValid _ p r _ xs (rd_alloc (rd_alloc (rd_below HR.out T0.out) _) _) (by omega)).mono ?_
          rintro e w1 ⟨rfl, hb⟩
          have D1 : Below w.heap.size w w1 := below_trans (below_alloc _ _) (below_trans (below_alloc _ _) (hb))
          have T1 := Lib.hid (below_trans T0.out D1)
          have z1 : w.heap.size + 2 ≤ w1.heap.size := (by have := hb.size; (try simp at this); omega)
          have c_A0_1 := cell_b (p := ⟨w.heap.size, 0, none⟩) (v := .int .i64 p) (by simp) hb
          have c_A1_1 := cell_b (p := ⟨w.heap.size, 1, none⟩) (v := .int .i64 r) (by simp) hb
          have c_A2_1 := cell_b (p := ⟨w.heap.size, 2, none⟩) (v := .slice a xs.length cap) (by simp) hb
          have c_R0_1 := cell_b (p := ⟨w.heap.size + 1, 0, none⟩) (v := .int .i64 0) (by simp) hb
          have f_R0_1 : w1.frozen? ⟨w.heap.size + 1, 0, none⟩ = false := (hb.frozen (p := ⟨w.heap.size + 1, 0, none⟩) (by simp; try omega)).trans (by simp)
          have c_R1_1 := cell_b (p := ⟨w.heap.size + 1, 1, none⟩) (v := .int .i64 0) (by simp) hb
          have f_R1_1 : w1.frozen? ⟨w.heap.size + 1, 1, none⟩ = false := (hb.frozen (p := ⟨w.heap.size + 1, 1, none⟩) (by simp; try omega)).trans (by simp)
          have c_R2_1 := cell_b (p := ⟨w.heap.size + 1, 2, none⟩) (v := .slice none 0 0) (by simp) hb
          have f_R2_1 : w1.frozen? ⟨w.heap.size + 1, 2, none⟩ = false := (hb.frozen (p := ⟨w.heap.size + 1, 2, none⟩) (by simp; try omega)).trans (by simp)
          have ac_A0_1 := fun o => cell_b c_A0_1 (below_alloc _ o)
          have bc_A0_1 := fun o o1 => cell_b (ac_A0_1 o) (below_alloc _ o1)
          have dc_A0_1 := fun o o1 o2 => cell_b (bc_A0_1 o o1) (below_alloc _ o2)
          have ac_A1_1 := fun o => cell_b c_A1_1 (below_alloc _ o)
          have bc_A1_1 := fun o o1 => cell_b (ac_A1_1 o) (below_alloc _ o1)
          have dc_A1_1 := fun o o1 o2 => cell_b (bc_A1_1 o o1) (below_alloc _ o2)
          have ac_A2_1 := fun o => cell_b c_A2_1 (below_alloc _ o)
          have bc_A2_1 := fun o o1 => cell_b (ac_A2_1 o) (below_alloc _ o1)
          have dc_A2_1 := fun o o1 o2 => cell_b (bc_A2_1 o o1) (below_alloc _ o2)
          have ac_R0_1 := fun o => cell_b c_R0_1 (below_alloc _ o)
          have bc_R0_1 := fun o o1 => cell_b (ac_R0_1 o) (below_alloc _ o1)
          have dc_R0_1 := fun o o1 o2 => cell_b (bc_R0_1 o o1) (below_alloc _ o2)
          have ac_R1_1 := fun o => cell_b c_R1_1 (below_alloc _ o)
          have bc_R1_1 := fun o o1 => cell_b (ac_R1_1 o) (below_alloc _ o1)
          have dc_R1_1 := fun o o1 o2 => cell_b (bc_R1_1 o o1) (below_alloc _ o2)
          have ac_R2_1 := fun o => cell_b c_R2_1 (below_alloc _ o)
          have bc_R2_1 := fun o o1 => cell_b (ac_R2_1 o) (below_alloc _ o1)
          have dc_R2_1 := fun o o1 o2 => cell_b (bc_R2_1 o o1) (below_alloc _ o2)
          have af_R0_1 := fun o => frz_b (cell_lt c_R0_1) f_R0_1 (below_alloc _ o)
          have bf_R0_1 := fun o o1 => frz_b (cell_lt (ac_R0_1 o)) (af_R0_1 o) (below_alloc _ o1)
          have df_R0_1 := fun o o1 o2 => frz_b (cell_lt (bc_R0_1 o o1)) (bf_R0_1 o o1) (below_alloc _ o2)
          have af_R1_1 := fun o => frz_b (cell_lt c_R1_1) f_R1_1 (below_alloc _ o)
          have bf_R1_1 := fun o o1 => frz_b (cell_lt (ac_R1_1 o)) (af_R1_1 o) (below_alloc _ o1)
          have df_R1_1 := fun o o1 o2 => frz_b (cell_lt (bc_R1_1 o o1)) (bf_R1_1 o o1) (below_alloc _ o2)
          have af_R2_1 := fun o => frz_b (cell_lt c_R2_1) f_R2_1 (below_alloc _ o)
          have bf_R2_1 := fun o o1 => frz_b (cell_lt (ac_R2_1 o)) (af_R2_1 o) (below_alloc _ o1)
          have df_R2_1 := fun o o1 o2 => frz_b (cell_lt (bc_R2_1 o o1)) (bf_R2_1 o o1) (below_alloc _ o2)
          clear hb D1 T0
          go_wp2_with fail
          refine (same_b (S_l1Thread _ t)).mono ?_
          rintro e w2 ⟨rfl, hb⟩
          have D2 : Below w1.heap.size w1 w2 := hb
          have c_A0_2 := cell_b c_A0_1 D2
          have c_A1_2 := cell_b c_A1_1 D2
          have c_A2_2 := cell_b c_A2_1 D2
          have c_R0_2 := cell_b c_R0_1 D2
          have c_R1_2 := cell_b c_R1_1 D2
          have c_R2_2 := cell_b c_R2_1 D2
          have f_R0_2 := (D2.frozen (p := ⟨w.heap.size + 1, 0, none⟩) (World.block_lt_of_cell? _ _ c_R0_1)).trans f_R0_1
          have f_R1_2 := (D2.frozen (p := ⟨w.heap.size + 1, 1, none⟩) (World.block_lt_of_cell? _ _ c_R1_1)).trans f_R1_1
          have f_R2_2 := (D2.frozen (p := ⟨w.heap.size + 1, 2, none⟩) (World.block_lt_of_cell? _ _ c_R2_1)).trans f_R2_1
          have T2 := Lib.hid (below_trans T1.out D2)
          have z2 : w1.heap.size ≤ w2.heap.size := (by have := hb.size; (try simp at this); omega)
          have ac_A0_2 := fun o => cell_b c_A0_2 (below_alloc _ o)
          have bc_A0_2 := fun o o1 => cell_b (ac_A0_2 o) (below_alloc _ o1)
          have dc_A0_2 := fun o o1 o2 => cell_b (bc_A0_2 o o1) (below_alloc _ o2)
          have ac_A1_2 := fun o => cell_b c_A1_2 (below_alloc _ o)
          have bc_A1_2 := fun o o1 => cell_b (ac_A1_2 o) (below_alloc _ o1)
          have dc_A1_2 := fun o o1 o2 => cell_b (bc_A1_2 o o1) (below_alloc _ o2)
          have ac_A2_2 := fun o => cell_b c_A2_2 (below_alloc _ o)
          have bc_A2_2 := fun o o1 => cell_b (ac_A2_2 o) (below_alloc _ o1)
          have dc_A2_2 := fun o o1 o2 => cell_b (bc_A2_2 o o1) (below_alloc _ o2)
          have ac_R0_2 := fun o => cell_b c_R0_2 (below_alloc _ o)
          have bc_R0_2 := fun o o1 => cell_b (ac_R0_2 o) (below_alloc _ o1)
          have dc_R0_2 := fun o o1 o2 => cell_b (bc_R0_2 o o1) (below_alloc _ o2)
          have ac_R1_2 := fun o => cell_b c_R1_2 (below_alloc _ o)
          have bc_R1_2 := fun o o1 => cell_b (ac_R1_2 o) (below_alloc _ o1)
          have dc_R1_2 := fun o o1 o2 => cell_b (bc_R1_2 o o1) (below_alloc _ o2)
          have ac_R2_2 := fun o => cell_b c_R2_2 (below_alloc _ o)
          have bc_R2_2 := fun o o1 => cell_b (ac_R2_2 o) (below_alloc _ o1)
          have dc_R2_2 := fun o o1 o2 => cell_b (bc_R2_2 o o1) (below_alloc _ o2)
          have af_R0_2 := fun o => frz_b (cell_lt c_R0_2) f_R0_2 (below_alloc _ o)
          have bf_R0_2 := fun o o1 => frz_b (cell_lt (ac_R0_2 o)) (af_R0_2 o) (below_alloc _ o1)
          have df_R0_2 := fun o o1 o2 => frz_b (cell_lt (bc_R0_2 o o1)) (bf_R0_2 o o1) (below_alloc _ o2)
          have af_R1_2 := fun o => frz_b (cell_lt c_R1_2) f_R1_2 (below_alloc _ o)
          have bf_R1_2 := fun o o1 => frz_b (cell_lt (ac_R1_2 o)) (af_R1_2 o) (below_alloc _ o1)
          have df_R1_2 := fun o o1 o2 => frz_b (cell_lt (bc_R1_2 o o1)) (bf_R1_2 o o1) (below_alloc _ o2)
          have af_R2_2 := fun o => frz_b (cell_lt c_R2_2) f_R2_2 (below_alloc _ o)
          have bf_R2_2 := fun o o1 => frz_b (cell_lt (ac_R2_2 o)) (af_R2_2 o) (below_alloc _ o1)
          have df_R2_2 := fun o o1 o2 => frz_b (cell_lt (bc_R2_2 o o1)) (bf_R2_2 o o1) (below_alloc _ o2)
          clear ac_A0_1 bc_A0_1 dc_A0_1 ac_A1_1 bc_A1_1 dc_A1_1 ac_A2_1 bc_A2_1 dc_A2_1 ac_R0_1 bc_R0_1 dc_R0_1 ac_R1_1 bc_R1_1 dc_R1_1 ac_R2_1 bc_R2_1 dc_R2_1 af_R0_1 bf_R0_1 df_R0_1 af_R1_1 bf_R1_1 df_R1_1 af_R2_1 bf_R2_1 df_R2_1 c_A0_1 c_A1_1 c_A2_1 c_R0_1 c_R1_1 c_R2_1 f_R0_1 f_R1_1 f_R2_1 hb D2 T1
          go_wp2_with fail
          refine (same_b (S_l2At _ _ xs t (rd_below HR.out T2.out) (by omega))).mono ?_
          rintro e w3 ⟨rfl, hb⟩
          have D3 : Below w2.heap.size w2 w3 := hb
          have c_A0_3 := cell_b c_A0_2 D3
          have c_A1_3 := cell_b c_A1_2 D3
          have c_A2_3 := cell_b c_A2_2 D3
          have c_R0_3 := cell_b c_R0_2 D3
          have c_R1_3 := cell_b c_R1_2 D3
          have c_R2_3 := cell_b c_R2_2 D3
          have f_R0_3 := (D3.frozen (p := ⟨w.heap.size + 1, 0, none⟩) (World.block_lt_of_cell? _ _ c_R0_2)).trans f_R0_2
          have f_R1_3 := (D3.frozen (p := ⟨w.heap.size + 1, 1, none⟩) (World.block_lt_of_cell? _ _ c_R1_2)).trans f_R1_2
          have f_R2_3 := (D3.frozen (p := ⟨w.heap.size + 1, 2, none⟩) (World.block_lt_of_cell? _ _ c_R2_2)).trans f_R2_2
          have T3 := Lib.hid (below_trans T2.out D3)
          have z3 : w2.heap.size ≤ w3.heap.size := (by have := hb.size; (try simp at this); omega)
          have ac_A0_3 := fun o => cell_b c_A0_3 (below_alloc _ o)
          have bc_A0_3 := fun o o1 => cell_b (ac_A0_3 o) (below_alloc _ o1)
          have dc_A0_3 := fun o o1 o2 => cell_b (bc_A0_3 o o1) (below_alloc _ o2)
          have ac_A1_3 := fun o => cell_b c_A1_3 (below_alloc _ o)
          have bc_A1_3 := fun o o1 => cell_b (ac_A1_3 o) (below_alloc _ o1)
          have dc_A1_3 := fun o o1 o2 => cell_b (bc_A1_3 o o1) (below_alloc _ o2)
          have ac_A2_3 := fun o => cell_b c_A2_3 (below_alloc _ o)
          have bc_A2_3 := fun o o1 => cell_b (ac_A2_3 o) (below_alloc _ o1)
          have dc_A2_3 := fun o o1 o2 => cell_b (bc_A2_3 o o1) (below_alloc _ o2)
          have ac_R0_3 := fun o => cell_b c_R0_3 (below_alloc _ o)
          have bc_R0_3 := fun o o1 => cell_b (ac_R0_3 o) (below_alloc _ o1)
          have dc_R0_3 := fun o o1 o2 => cell_b (bc_R0_3 o o1) (below_alloc _ o2)
          have ac_R1_3 := fun o => cell_b c_R1_3 (below_alloc _ o)
          have bc_R1_3 := fun o o1 => cell_b (ac_R1_3 o) (below_alloc _ o1)
          have dc_R1_3 := fun o o1 o2 => cell_b (bc_R1_3 o o1) (below_alloc _ o2)
          have ac_R2_3 := fun o => cell_b c_R2_3 (below_alloc _ o)
          have bc_R2_3 := fun o o1 => cell_b (ac_R2_3 o) (below_alloc _ o1)
          have dc_R2_3 := fun o o1 o2 => cell_b (bc_R2_3 o o1) (below_alloc _ o2)
          have af_R0_3 := fun o => frz_b (cell_lt c_R0_3) f_R0_3 (below_alloc _ o)
          have bf_R0_3 := fun o o1 => frz_b (cell_lt (ac_R0_3 o)) (af_R0_3 o) (below_alloc _ o1)
          have df_R0_3 := fun o o1 o2 => frz_b (cell_lt (bc_R0_3 o o1)) (bf_R0_3 o o1) (below_alloc _ o2)
          have af_R1_3 := fun o => frz_b (cell_lt c_R1_3) f_R1_3 (below_alloc _ o)
          have bf_R1_3 := fun o o1 => frz_b (cell_lt (ac_R1_3 o)) (af_R1_3 o) (below_alloc _ o1)
          have df_R1_3 := fun o o1 o2 => frz_b (cell_lt (bc_R1_3 o o1)) (bf_R1_3 o o1) (below_alloc _ o2)
          have af_R2_3 := fun o => frz_b (cell_lt c_R2_3) f_R2_3 (below_alloc _ o)
          have bf_R2_3 := fun o o1 => frz_b (cell_lt (ac_R2_3 o)) (af_R2_3 o) (below_alloc _ o1)
          have df_R2_3 := fun o o1 o2 => frz_b (cell_lt (bc_R2_3 o o1)) (bf_R2_3 o o1) (below_alloc _ o2)
          clear ac_A0_2 bc_A0_2 dc_A0_2 ac_A1_2 bc_A1_2 dc_A1_2 ac_A2_2 bc_A2_2 dc_A2_2 ac_R0_2 bc_R0_2 dc_R0_2 ac_R1_2 bc_R1_2 dc_R1_2 ac_R2_2 bc_R2_2 dc_R2_2 af_R0_2 bf_R0_2 df_R0_2 af_R1_2 bf_R1_2 df_R1_2 af_R2_2 bf_R2_2 df_R2_2 c_A0_2 c_A1_2 c_A2_2 c_R0_2 c_R1_2 c_R2_2 f_R0_2 f_R1_2 f_R2_2 hb D3 T2
          have tok5 : True := trivial
          have tok4 : True := trivial
          go_wp2_with (first | (at_builtin; have _t := tok4; refine wpList_append_rd rfl _ _ 24 rfl (w3.heap.size) i0 Try.underlying24 hi hz0 hz1 hz2 (.slice (some ⟨w3.heap.size, 0, none⟩) 0 0) (0) ([]) rfl (World.ownsRow_made _ #[] 0 (by simp) (by unfold maxLen; omega) rfl) _ _ _ (xs) rfl (rd_alloc (rd_below HR.out T3.out) _) rfl (by unfold maxLen; omega) (by omega) (by simp; try omega) ?_; intro v4 w4 hown hgrow; clear tok4; have ho : w4.ownsRow (w3.heap.size) 3 1 v4 ((xs).length) (ints (xs)) := (by rw [Nat.zero_add, List.nil_append] at hown; exact hown); obtain ⟨a4, cap4, hv⟩ := own_shape ho; subst hv; have c_A0_4 := cell_gr (cell_b c_A0_3 (below_alloc _ _)) hgrow (fun g h => by simp only [Value.ownBlock, Option.some.injEq] at h; show w.heap.size ≠ g; omega); have c_A1_4 := cell_gr (cell_b c_A1_3 (below_alloc _ _)) hgrow (fun g h => by simp only [Value.ownBlock, Option.some.injEq] at h; show w.heap.size ≠ g; omega); have c_A2_4 := cell_gr (cell_b c_A2_3 (below_alloc _ _)) hgrow (fun g h => by simp only [Value.ownBlock, Option.some.injEq] at h; show w.heap.size ≠ g; omega); have c_R0_4 := cell_gr (cell_b c_R0_3 (below_alloc _ _)) hgrow (fun g h => by simp only [Value.ownBlock, Option.some.injEq] at h; show w.heap.size + 1 ≠ g; omega); have c_R1_4 := cell_gr (cell_b c_R1_3 (below_alloc _ _)) hgrow (fun g h => by simp only [Value.ownBlock, Option.some.injEq] at h; show w.heap.size + 1 ≠ g; omega); have c_R2_4 := cell_gr (cell_b c_R2_3 (below_alloc _ _)) hgrow (fun g h => by simp only [Value.ownBlock, Option.some.injEq] at h; show w.heap.size + 1 ≠ g; omega); have f_R0_4 := (frz_gr (p := ⟨w.heap.size + 1, 0, none⟩) (cell_lt (cell_b c_R0_3 (below_alloc _ _))) hgrow (fun g h => by simp only [Value.ownBlock, Option.some.injEq] at h; show w.heap.size + 1 ≠ g; omega)).trans (frz_b (cell_lt c_R0_3) f_R0_3 (below_alloc _ _)); have f_R1_4 := (frz_gr (p := ⟨w.heap.size + 1, 1, none⟩) (cell_lt (cell_b c_R1_3 (below_alloc _ _))) hgrow (fun g h => by simp only [Value.ownBlock, Option.some.injEq] at h; show w.heap.size + 1 ≠ g; omega)).trans (frz_b (cell_lt c_R1_3) f_R1_3 (below_alloc _ _)); have f_R2_4 := (frz_gr (p := ⟨w.heap.size + 1, 2, none⟩) (cell_lt (cell_b c_R2_3 (below_alloc _ _))) hgrow (fun g h => by simp only [Value.ownBlock, Option.some.injEq] at h; show w.heap.size + 1 ≠ g; omega)).trans (frz_b (cell_lt c_R2_3) f_R2_3 (below_alloc _ _)); have z4 : w3.heap.size + 1 ≤ w4.heap.size := (by have := hgrow.size; (try simp at this); omega); have T4 := Lib.hid (below_gr (T3.out.trans ((below_alloc _ _ : Below w3.heap.size w3 _).mono T3.out.size)) (by have := T3.out.size; simp; try omega) hgrow (fun g h => by have h9 := T3.out.size; simp only [Value.ownBlock, Option.some.injEq] at h; omega)); have o_d_4 := Lib.hid ho; have lo_d := Lib.hid (own_lo o_d_4.out); have hi_d := Lib.hid (own_hi o_d_4.out); have ac_A0_4 := fun o => cell_b c_A0_4 (below_alloc _ o); have bc_A0_4 := fun o o1 => cell_b (ac_A0_4 o) (below_alloc _ o1); have dc_A0_4 := fun o o1 o2 => cell_b (bc_A0_4 o o1) (below_alloc _ o2); have ac_A1_4 := fun o => cell_b c_A1_4 (below_alloc _ o); have bc_A1_4 := fun o o1 => cell_b (ac_A1_4 o) (below_alloc _ o1); have dc_A1_4 := fun o o1 o2 => cell_b (bc_A1_4 o o1) (below_alloc _ o2); have ac_A2_4 := fun o => cell_b c_A2_4 (below_alloc _ o); have bc_A2_4 := fun o o1 => cell_b (ac_A2_4 o) (below_alloc _ o1); have dc_A2_4 := fun o o1 o2 => cell_b (bc_A2_4 o o1) (below_alloc _ o2); have ac_R0_4 := fun o => cell_b c_R0_4 (below_alloc _ o); have bc_R0_4 := fun o o1 => cell_b (ac_R0_4 o) (below_alloc _ o1); have dc_R0_4 := fun o o1 o2 => cell_b (bc_R0_4 o o1) (below_alloc _ o2); have ac_R1_4 := fun o => cell_b c_R1_4 (below_alloc _ o); have bc_R1_4 := fun o o1 => cell_b (ac_R1_4 o) (below_alloc _ o1); have dc_R1_4 := fun o o1 o2 => cell_b (bc_R1_4 o o1) (below_alloc _ o2); have ac_R2_4 := fun o => cell_b c_R2_4 (below_alloc _ o); have bc_R2_4 := fun o o1 => cell_b (ac_R2_4 o) (below_alloc _ o1); have dc_R2_4 := fun o o1 o2 => cell_b (bc_R2_4 o o1) (below_alloc _ o2); have af_R0_4 := fun o => frz_b (cell_lt c_R0_4) f_R0_4 (below_alloc _ o); have bf_R0_4 := fun o o1 => frz_b (cell_lt (ac_R0_4 o)) (af_R0_4 o) (below_alloc _ o1); have df_R0_4 := fun o o1 o2 => frz_b (cell_lt (bc_R0_4 o o1)) (bf_R0_4 o o1) (below_alloc _ o2); have af_R1_4 := fun o => frz_b (cell_lt c_R1_4) f_R1_4 (below_alloc _ o); have bf_R1_4 := fun o o1 => frz_b (cell_lt (ac_R1_4 o)) (af_R1_4 o) (below_alloc _ o1); have df_R1_4 := fun o o1 o2 => frz_b (cell_lt (bc_R1_4 o o1)) (bf_R1_4 o o1) (below_alloc _ o2); have af_R2_4 := fun o => frz_b (cell_lt c_R2_4) f_R2_4 (below_alloc _ o); have bf_R2_4 := fun o o1 => frz_b (cell_lt (ac_R2_4 o)) (af_R2_4 o) (below_alloc _ o1); have df_R2_4 := fun o o1 o2 => frz_b (cell_lt (bc_R2_4 o o1)) (bf_R2_4 o o1) (below_alloc _ o2); clear hown hgrow ho T3 ac_A0_3 bc_A0_3 dc_A0_3 ac_A1_3 bc_A1_3 dc_A1_3 ac_A2_3 bc_A2_3 dc_A2_3 ac_R0_3 bc_R0_3 dc_R0_3 ac_R1_3 bc_R1_3 dc_R1_3 ac_R2_3 bc_R2_3 dc_R2_3 af_R0_3 bf_R0_3 df_R0_3 af_R1_3 bf_R1_3 df_R1_3 af_R2_3 bf_R2_3 df_R2_3 c_A0_3 c_A1_3 c_A2_3 c_R0_3 c_R1_3 c_R2_3 f_R0_3 f_R1_3 f_R2_3) | (at_builtin; have _t := tok5; refine wpList_append_own _ rfl _ _ 24 rfl (w3.heap.size) 3 i0 (.int .i64 0) 1 8 Try.underlying24 hi hz0 hz1 hz2 rfl (by decide) (.slice a4 xs.length cap4) (xs.length) (ints (xs)) rfl (own_below (o_d_4.out) (below_alloc _ _)) ⟨w4.heap.size, 0, none⟩ 1 1 [.int .i64 (t)] rfl rfl (cell_one_new _ _ _) (ints_oneCell .i64 [t]) (by unfold maxLen; omega) (by omega) (by simp; try omega) ?_; intro v5 w5 hown hgrow _; clear tok5; have ho : w5.ownsRow (w3.heap.size) 3 1 v5 (xs.length + 1) (ints (xs ++ [t])) := (by rw [ints_append]; exact hown); obtain ⟨a5, cap5, hv⟩ := own_shape ho; subst hv; have c_A0_5 := cell_gr (cell_b c_A0_4 (below_alloc _ _)) hgrow (fun g h => by have h1 := lo_d.out g h; have h2 := hi_d.out g h; show w.heap.size ≠ g; omega); have c_A1_5 := cell_gr (cell_b c_A1_4 (below_alloc _ _)) hgrow (fun g h => by have h1 := lo_d.out g h; have h2 := hi_d.out g h; show w.heap.size ≠ g; omega); have c_A2_5 := cell_gr (cell_b c_A2_4 (below_alloc _ _)) hgrow (fun g h => by have h1 := lo_d.out g h; have h2 := hi_d.out g h; show w.heap.size ≠ g; omega); have c_R0_5 := cell_gr (cell_b c_R0_4 (below_alloc _ _)) hgrow (fun g h => by have h1 := lo_d.out g h; have h2 := hi_d.out g h; show w.heap.size + 1 ≠ g; omega); have c_R1_5 := cell_gr (cell_b c_R1_4 (below_alloc _ _)) hgrow (fun g h => by have h1 := lo_d.out g h; have h2 := hi_d.out g h; show w.heap.size + 1 ≠ g; omega); have c_R2_5 := cell_gr (cell_b c_R2_4 (below_alloc _ _)) hgrow (fun g h => by have h1 := lo_d.out g h; have h2 := hi_d.out g h; show w.heap.size + 1 ≠ g; omega); have f_R0_5 := (frz_gr (p := ⟨w.heap.size + 1, 0, none⟩) (cell_lt (cell_b c_R0_4 (below_alloc _ _))) hgrow (fun g h => by have h1 := lo_d.out g h; have h2 := hi_d.out g h; show w.heap.size + 1 ≠ g; omega)).trans (frz_b (cell_lt c_R0_4) f_R0_4 (below_alloc _ _)); have f_R1_5 := (frz_gr (p := ⟨w.heap.size + 1, 1, none⟩) (cell_lt (cell_b c_R1_4 (below_alloc _ _))) hgrow (fun g h => by have h1 := lo_d.out g h; have h2 := hi_d.out g h; show w.heap.size + 1 ≠ g; omega)).trans (frz_b (cell_lt c_R1_4) f_R1_4 (below_alloc _ _)); have f_R2_5 := (frz_gr (p := ⟨w.heap.size + 1, 2, none⟩) (cell_lt (cell_b c_R2_4 (below_alloc _ _))) hgrow (fun g h => by have h1 := lo_d.out g h; have h2 := hi_d.out g h; show w.heap.size + 1 ≠ g; omega)).trans (frz_b (cell_lt c_R2_4) f_R2_4 (below_alloc _ _)); have z5 : w4.heap.size + 1 ≤ w5.heap.size := (by have := hgrow.size; (try simp at this); omega); have T5 := Lib.hid (below_gr (T4.out.trans ((below_alloc _ _ : Below w4.heap.size w4 _).mono T4.out.size)) (by have := T4.out.size; simp; try omega) hgrow (fun g h => by have h9 := T4.out.size; have h1 := lo_d.out g h; have h2 := hi_d.out g h; omega)); have o_e_5 := Lib.hid ho; have lo_e := Lib.hid (own_lo o_e_5.out); have hi_e := Lib.hid (own_hi o_e_5.out); have ac_A0_5 := fun o => cell_b c_A0_5 (below_alloc _ o); have bc_A0_5 := fun o o1 => cell_b (ac_A0_5 o) (below_alloc _ o1); have dc_A0_5 := fun o o1 o2 => cell_b (bc_A0_5 o o1) (below_alloc _ o2); have ac_A1_5 := fun o => cell_b c_A1_5 (below_alloc _ o); have bc_A1_5 := fun o o1 => cell_b (ac_A1_5 o) (below_alloc _ o1); have dc_A1_5 := fun o o1 o2 => cell_b (bc_A1_5 o o1) (below_alloc _ o2); have ac_A2_5 := fun o => cell_b c_A2_5 (below_alloc _ o); have bc_A2_5 := fun o o1 => cell_b (ac_A2_5 o) (below_alloc _ o1); have dc_A2_5 := fun o o1 o2 => cell_b (bc_A2_5 o o1) (below_alloc _ o2); have ac_R0_5 := fun o => cell_b c_R0_5 (below_alloc _ o); have bc_R0_5 := fun o o1 => cell_b (ac_R0_5 o) (below_alloc _ o1); have dc_R0_5 := fun o o1 o2 => cell_b (bc_R0_5 o o1) (below_alloc _ o2); have ac_R1_5 := fun o => cell_b c_R1_5 (below_alloc _ o); have bc_R1_5 := fun o o1 => cell_b (ac_R1_5 o) (below_alloc _ o1); have dc_R1_5 := fun o o1 o2 => cell_b (bc_R1_5 o o1) (below_alloc _ o2); have ac_R2_5 := fun o => cell_b c_R2_5 (below_alloc _ o); have bc_R2_5 := fun o o1 => cell_b (ac_R2_5 o) (below_alloc _ o1); have dc_R2_5 := fun o o1 o2 => cell_b (bc_R2_5 o o1) (below_alloc _ o2); have af_R0_5 := fun o => frz_b (cell_lt c_R0_5) f_R0_5 (below_alloc _ o); have bf_R0_5 := fun o o1 => frz_b (cell_lt (ac_R0_5 o)) (af_R0_5 o) (below_alloc _ o1); have df_R0_5 := fun o o1 o2 => frz_b (cell_lt (bc_R0_5 o o1)) (bf_R0_5 o o1) (below_alloc _ o2); have af_R1_5 := fun o => frz_b (cell_lt c_R1_5) f_R1_5 (below_alloc _ o); have bf_R1_5 := fun o o1 => frz_b (cell_lt (ac_R1_5 o)) (af_R1_5 o) (below_alloc _ o1); have df_R1_5 := fun o o1 o2 => frz_b (cell_lt (bc_R1_5 o o1)) (bf_R1_5 o o1) (below_alloc _ o2); have af_R2_5 := fun o => frz_b (cell_lt c_R2_5) f_R2_5 (below_alloc _ o); have bf_R2_5 := fun o o1 => frz_b (cell_lt (ac_R2_5 o)) (af_R2_5 o) (below_alloc _ o1); have df_R2_5 := fun o o1 o2 => frz_b (cell_lt (bc_R2_5 o o1)) (bf_R2_5 o o1) (below_alloc _ o2); clear hown hgrow ho T4 ac_A0_4 bc_A0_4 dc_A0_4 ac_A1_4 bc_A1_4 dc_A1_4 ac_A2_4 bc_A2_4 dc_A2_4 ac_R0_4 bc_R0_4 dc_R0_4 ac_R1_4 bc_R1_4 dc_R1_4 ac_R2_4 bc_R2_4 dc_R2_4 af_R0_4 bf_R0_4 df_R0_4 af_R1_4 bf_R1_4 df_R1_4 af_R2_4 bf_R2_4 df_R2_4 c_A0_4 c_A1_4 c_A2_4 c_R0_4 c_R1_4 c_R2_4 f_R0_4 f_R1_4 f_R2_4 o_d_4))
          go_wp2_with fail
          have O5 : Ow w5 (w3.heap.size) (.slice a5 (xs.length + 1) cap5) (xs ++ [t]) := (by have := o_e_5.out; unfold Ow; rwa [show (xs ++ [t]).length = xs.length + 1 by simp])
          refine bodyPost_ret (v := .tuple #[.agg #[.int .i64 p, .int .i64 r, .slice a5 (xs.length + 1) cap5], .slice (some ⟨w5.heap.size, 0, none⟩) 0 0, .bool true]) (by simp [results, Try.results33, go_sem, ac_R0_5, ac_R1_5, ac_R2_5]) rfl ⟨a5, cap5, some ⟨w5.heap.size, 0, none⟩, 0, rfl, ?_, ?_, ne_lt (b := w5.heap.size) (by have := own_hi O5; exact this) (by intro g hg; simp [Value.ownBlock] at hg; omega), ((((T5.out.alloc T5.out.size _)).setCell (by simp) _).setCell (by simp) _).setCell (by simp) _⟩
          · refine own_base (b := w3.heap.size) ?_ (by omega)
            repeat (first | exact (own_below O5 (below_alloc _ _)) | refine ownsRow_setCell_below ?_ (by show _ + 1 < _; omega) _)
          · refine own_base (b := w5.heap.size) ?_ (by omega)
            repeat (first | exact (ow_made w5 _ (Nat.le_refl _)) | refine ownsRow_setCell_below ?_ (by show _ + 1 < _; omega) _)
        · by_cases hr9 : r + 1 ≤ 9999
          · have harr : arr p r xs t = (p, r + 1, [], xs ++ [t], true) := by unfold arr; rw [hv, ht, hh']; rw [if_pos (by rfl), if_neg hp, if_pos hr9]
            simp only [harr, List.length_append]
            clear harr
            clear hr hnc
            go_enter Try.func33, Try.ntmps33
            have T0 := Lib.hid (Below.refl w.heap.size w)
            go_wp2_with fail
            refine (S_BarrierValid _ p r _ xs (rd_alloc (rd_alloc (rd_below HR.out T0.out) _) _) (by omega)).mono ?_
            rintro e w1 ⟨rfl, hb⟩
            have D1 : Below w.heap.size w w1 := below_trans (below_alloc _ _) (below_trans (below_alloc _ _) (hb))
            have T1 := Lib.hid (below_trans T0.out D1)
            have z1 : w.heap.size + 2 ≤ w1.heap.size := (by have := hb.size; (try simp at this); omega)
            have c_A0_1 := cell_b (p := ⟨w.heap.size, 0, none⟩) (v := .int .i64 p) (by simp) hb
            have c_A1_1 := cell_b (p := ⟨w.heap.size, 1, none⟩) (v := .int .i64 r) (by simp) hb
            have c_A2_1 := cell_b (p := ⟨w.heap.size, 2, none⟩) (v := .slice a xs.length cap) (by simp) hb
            have c_R0_1 := cell_b (p := ⟨w.heap.size + 1, 0, none⟩) (v := .int .i64 0) (by simp) hb
            have f_R0_1 : w1.frozen? ⟨w.heap.size + 1, 0, none⟩ = false := (hb.frozen (p := ⟨w.heap.size + 1, 0, none⟩) (by simp; try omega)).trans (by simp)
            have c_R1_1 := cell_b (p := ⟨w.heap.size + 1, 1, none⟩) (v := .int .i64 0) (by simp) hb
            have f_R1_1 : w1.frozen? ⟨w.heap.size + 1, 1, none⟩ = false := (hb.frozen (p := ⟨w.heap.size + 1, 1, none⟩) (by simp; try omega)).trans (by simp)
            have c_R2_1 := cell_b (p := ⟨w.heap.size + 1, 2, none⟩) (v := .slice none 0 0) (by simp) hb
            have f_R2_1 : w1.frozen? ⟨w.heap.size + 1, 2, none⟩ = false := (hb.frozen (p := ⟨w.heap.size + 1, 2, none⟩) (by simp; try omega)).trans (by simp)
            have ac_A0_1 := fun o => cell_b c_A0_1 (below_alloc _ o)
            have bc_A0_1 := fun o o1 => cell_b (ac_A0_1 o) (below_alloc _ o1)
            have dc_A0_1 := fun o o1 o2 => cell_b (bc_A0_1 o o1) (below_alloc _ o2)
            have ac_A1_1 := fun o => cell_b c_A1_1 (below_alloc _ o)
            have bc_A1_1 := fun o o1 => cell_b (ac_A1_1 o) (below_alloc _ o1)
            have dc_A1_1 := fun o o1 o2 => cell_b (bc_A1_1 o o1) (below_alloc _ o2)
            have ac_A2_1 := fun o => cell_b c_A2_1 (below_alloc _ o)
            have bc_A2_1 := fun o o1 => cell_b (ac_A2_1 o) (below_alloc _ o1)
            have dc_A2_1 := fun o o1 o2 => cell_b (bc_A2_1 o o1) (below_alloc _ o2)
            have ac_R0_1 := fun o => cell_b c_R0_1 (below_alloc _ o)
            have bc_R0_1 := fun o o1 => cell_b (ac_R0_1 o) (below_alloc _ o1)
            have dc_R0_1 := fun o o1 o2 => cell_b (bc_R0_1 o o1) (below_alloc _ o2)
            have ac_R1_1 := fun o => cell_b c_R1_1 (below_alloc _ o)
            have bc_R1_1 := fun o o1 => cell_b (ac_R1_1 o) (below_alloc _ o1)
            have dc_R1_1 := fun o o1 o2 => cell_b (bc_R1_1 o o1) (below_alloc _ o2)
            have ac_R2_1 := fun o => cell_b c_R2_1 (below_alloc _ o)
            have bc_R2_1 := fun o o1 => cell_b (ac_R2_1 o) (below_alloc _ o1)
            have dc_R2_1 := fun o o1 o2 => cell_b (bc_R2_1 o o1) (below_alloc _ o2)
            have af_R0_1 := fun o => frz_b (cell_lt c_R0_1) f_R0_1 (below_alloc _ o)
            have bf_R0_1 := fun o o1 => frz_b (cell_lt (ac_R0_1 o)) (af_R0_1 o) (below_alloc _ o1)
            have df_R0_1 := fun o o1 o2 => frz_b (cell_lt (bc_R0_1 o o1)) (bf_R0_1 o o1) (below_alloc _ o2)
            have af_R1_1 := fun o => frz_b (cell_lt c_R1_1) f_R1_1 (below_alloc _ o)
            have bf_R1_1 := fun o o1 => frz_b (cell_lt (ac_R1_1 o)) (af_R1_1 o) (below_alloc _ o1)
            have df_R1_1 := fun o o1 o2 => frz_b (cell_lt (bc_R1_1 o o1)) (bf_R1_1 o o1) (below_alloc _ o2)
            have af_R2_1 := fun o => frz_b (cell_lt c_R2_1) f_R2_1 (below_alloc _ o)
            have bf_R2_1 := fun o o1 => frz_b (cell_lt (ac_R2_1 o)) (af_R2_1 o) (below_alloc _ o1)
            have df_R2_1 := fun o o1 o2 => frz_b (cell_lt (bc_R2_1 o o1)) (bf_R2_1 o o1) (below_alloc _ o2)
            clear hb D1 T0
            go_wp2_with fail
            refine (same_b (S_l1Thread _ t)).mono ?_
            rintro e w2 ⟨rfl, hb⟩
            have D2 : Below w1.heap.size w1 w2 := hb
            have c_A0_2 := cell_b c_A0_1 D2
            have c_A1_2 := cell_b c_A1_1 D2
            have c_A2_2 := cell_b c_A2_1 D2
            have c_R0_2 := cell_b c_R0_1 D2
            have c_R1_2 := cell_b c_R1_1 D2
            have c_R2_2 := cell_b c_R2_1 D2
            have f_R0_2 := (D2.frozen (p := ⟨w.heap.size + 1, 0, none⟩) (World.block_lt_of_cell? _ _ c_R0_1)).trans f_R0_1
            have f_R1_2 := (D2.frozen (p := ⟨w.heap.size + 1, 1, none⟩) (World.block_lt_of_cell? _ _ c_R1_1)).trans f_R1_1
            have f_R2_2 := (D2.frozen (p := ⟨w.heap.size + 1, 2, none⟩) (World.block_lt_of_cell? _ _ c_R2_1)).trans f_R2_1
            have T2 := Lib.hid (below_trans T1.out D2)
            have z2 : w1.heap.size ≤ w2.heap.size := (by have := hb.size; (try simp at this); omega)
            have ac_A0_2 := fun o => cell_b c_A0_2 (below_alloc _ o)
            have bc_A0_2 := fun o o1 => cell_b (ac_A0_2 o) (below_alloc _ o1)
            have dc_A0_2 := fun o o1 o2 => cell_b (bc_A0_2 o o1) (below_alloc _ o2)
            have ac_A1_2 := fun o => cell_b c_A1_2 (below_alloc _ o)
            have bc_A1_2 := fun o o1 => cell_b (ac_A1_2 o) (below_alloc _ o1)
            have dc_A1_2 := fun o o1 o2 => cell_b (bc_A1_2 o o1) (below_alloc _ o2)
            have ac_A2_2 := fun o => cell_b c_A2_2 (below_alloc _ o)
            have bc_A2_2 := fun o o1 => cell_b (ac_A2_2 o) (below_alloc _ o1)
            have dc_A2_2 := fun o o1 o2 => cell_b (bc_A2_2 o o1) (below_alloc _ o2)
            have ac_R0_2 := fun o => cell_b c_R0_2 (below_alloc _ o)
            have bc_R0_2 := fun o o1 => cell_b (ac_R0_2 o) (below_alloc _ o1)
            have dc_R0_2 := fun o o1 o2 => cell_b (bc_R0_2 o o1) (below_alloc _ o2)
            have ac_R1_2 := fun o => cell_b c_R1_2 (below_alloc _ o)
            have bc_R1_2 := fun o o1 => cell_b (ac_R1_2 o) (below_alloc _ o1)
            have dc_R1_2 := fun o o1 o2 => cell_b (bc_R1_2 o o1) (below_alloc _ o2)
            have ac_R2_2 := fun o => cell_b c_R2_2 (below_alloc _ o)
            have bc_R2_2 := fun o o1 => cell_b (ac_R2_2 o) (below_alloc _ o1)
            have dc_R2_2 := fun o o1 o2 => cell_b (bc_R2_2 o o1) (below_alloc _ o2)
            have af_R0_2 := fun o => frz_b (cell_lt c_R0_2) f_R0_2 (below_alloc _ o)
            have bf_R0_2 := fun o o1 => frz_b (cell_lt (ac_R0_2 o)) (af_R0_2 o) (below_alloc _ o1)
            have df_R0_2 := fun o o1 o2 => frz_b (cell_lt (bc_R0_2 o o1)) (bf_R0_2 o o1) (below_alloc _ o2)
            have af_R1_2 := fun o => frz_b (cell_lt c_R1_2) f_R1_2 (below_alloc _ o)
            have bf_R1_2 := fun o o1 => frz_b (cell_lt (ac_R1_2 o)) (af_R1_2 o) (below_alloc _ o1)
            have df_R1_2 := fun o o1 o2 => frz_b (cell_lt (bc_R1_2 o o1)) (bf_R1_2 o o1) (below_alloc _ o2)
            have af_R2_2 := fun o => frz_b (cell_lt c_R2_2) f_R2_2 (below_alloc _ o)
            have bf_R2_2 := fun o o1 => frz_b (cell_lt (ac_R2_2 o)) (af_R2_2 o) (below_alloc _ o1)
            have df_R2_2 := fun o o1 o2 => frz_b (cell_lt (bc_R2_2 o o1)) (bf_R2_2 o o1) (below_alloc _ o2)
            clear ac_A0_1 bc_A0_1 dc_A0_1 ac_A1_1 bc_A1_1 dc_A1_1 ac_A2_1 bc_A2_1 dc_A2_1 ac_R0_1 bc_R0_1 dc_R0_1 ac_R1_1 bc_R1_1 dc_R1_1 ac_R2_1 bc_R2_1 dc_R2_1 af_R0_1 bf_R0_1 df_R0_1 af_R1_1 bf_R1_1 df_R1_1 af_R2_1 bf_R2_1 df_R2_1 c_A0_1 c_A1_1 c_A2_1 c_R0_1 c_R1_1 c_R2_1 f_R0_1 f_R1_1 f_R2_1 hb D2 T1
            go_wp2_with fail
            refine (same_b (S_l2At _ _ xs t (rd_below HR.out T2.out) (by omega))).mono ?_
            rintro e w3 ⟨rfl, hb⟩
            have D3 : Below w2.heap.size w2 w3 := hb
            have c_A0_3 := cell_b c_A0_2 D3
            have c_A1_3 := cell_b c_A1_2 D3
            have c_A2_3 := cell_b c_A2_2 D3
            have c_R0_3 := cell_b c_R0_2 D3
            have c_R1_3 := cell_b c_R1_2 D3
            have c_R2_3 := cell_b c_R2_2 D3
            have f_R0_3 := (D3.frozen (p := ⟨w.heap.size + 1, 0, none⟩) (World.block_lt_of_cell? _ _ c_R0_2)).trans f_R0_2
            have f_R1_3 := (D3.frozen (p := ⟨w.heap.size + 1, 1, none⟩) (World.block_lt_of_cell? _ _ c_R1_2)).trans f_R1_2
            have f_R2_3 := (D3.frozen (p := ⟨w.heap.size + 1, 2, none⟩) (World.block_lt_of_cell? _ _ c_R2_2)).trans f_R2_2
            have T3 := Lib.hid (below_trans T2.out D3)
            have z3 : w2.heap.size ≤ w3.heap.size := (by have := hb.size; (try simp at this); omega)
            have ac_A0_3 := fun o => cell_b c_A0_3 (below_alloc _ o)
            have bc_A0_3 := fun o o1 => cell_b (ac_A0_3 o) (below_alloc _ o1)
            have dc_A0_3 := fun o o1 o2 => cell_b (bc_A0_3 o o1) (below_alloc _ o2)
            have ac_A1_3 := fun o => cell_b c_A1_3 (below_alloc _ o)
            have bc_A1_3 := fun o o1 => cell_b (ac_A1_3 o) (below_alloc _ o1)
            have dc_A1_3 := fun o o1 o2 => cell_b (bc_A1_3 o o1) (below_alloc _ o2)
            have ac_A2_3 := fun o => cell_b c_A2_3 (below_alloc _ o)
            have bc_A2_3 := fun o o1 => cell_b (ac_A2_3 o) (below_alloc _ o1)
            have dc_A2_3 := fun o o1 o2 => cell_b (bc_A2_3 o o1) (below_alloc _ o2)
            have ac_R0_3 := fun o => cell_b c_R0_3 (below_alloc _ o)
            have bc_R0_3 := fun o o1 => cell_b (ac_R0_3 o) (below_alloc _ o1)
            have dc_R0_3 := fun o o1 o2 => cell_b (bc_R0_3 o o1) (below_alloc _ o2)
            have ac_R1_3 := fun o => cell_b c_R1_3 (below_alloc _ o)
            have bc_R1_3 := fun o o1 => cell_b (ac_R1_3 o) (below_alloc _ o1)
            have dc_R1_3 := fun o o1 o2 => cell_b (bc_R1_3 o o1) (below_alloc _ o2)
            have ac_R2_3 := fun o => cell_b c_R2_3 (below_alloc _ o)
            have bc_R2_3 := fun o o1 => cell_b (ac_R2_3 o) (below_alloc _ o1)
            have dc_R2_3 := fun o o1 o2 => cell_b (bc_R2_3 o o1) (below_alloc _ o2)
            have af_R0_3 := fun o => frz_b (cell_lt c_R0_3) f_R0_3 (below_alloc _ o)
            have bf_R0_3 := fun o o1 => frz_b (cell_lt (ac_R0_3 o)) (af_R0_3 o) (below_alloc _ o1)
            have df_R0_3 := fun o o1 o2 => frz_b (cell_lt (bc_R0_3 o o1)) (bf_R0_3 o o1) (below_alloc _ o2)
            have af_R1_3 := fun o => frz_b (cell_lt c_R1_3) f_R1_3 (below_alloc _ o)
            have bf_R1_3 := fun o o1 => frz_b (cell_lt (ac_R1_3 o)) (af_R1_3 o) (below_alloc _ o1)
            have df_R1_3 := fun o o1 o2 => frz_b (cell_lt (bc_R1_3 o o1)) (bf_R1_3 o o1) (below_alloc _ o2)
            have af_R2_3 := fun o => frz_b (cell_lt c_R2_3) f_R2_3 (below_alloc _ o)
            have bf_R2_3 := fun o o1 => frz_b (cell_lt (ac_R2_3 o)) (af_R2_3 o) (below_alloc _ o1)
            have df_R2_3 := fun o o1 o2 => frz_b (cell_lt (bc_R2_3 o o1)) (bf_R2_3 o o1) (below_alloc _ o2)
            clear ac_A0_2 bc_A0_2 dc_A0_2 ac_A1_2 bc_A1_2 dc_A1_2 ac_A2_2 bc_A2_2 dc_A2_2 ac_R0_2 bc_R0_2 dc_R0_2 ac_R1_2 bc_R1_2 dc_R1_2 ac_R2_2 bc_R2_2 dc_R2_2 af_R0_2 bf_R0_2 df_R0_2 af_R1_2 bf_R1_2 df_R1_2 af_R2_2 bf_R2_2 df_R2_2 c_A0_2 c_A1_2 c_A2_2 c_R0_2 c_R1_2 c_R2_2 f_R0_2 f_R1_2 f_R2_2 hb D3 T2
            have hne : (r == 9999) = false := (by simp; omega)
            have tok5 : True := trivial
            have tok4 : True := trivial
            go_wp2_with (first | (at_builtin; have _t := tok4; refine wpList_append_rd rfl _ _ 24 rfl (w3.heap.size) i0 Try.underlying24 hi hz0 hz1 hz2 (.slice (some ⟨w3.heap.size, 0, none⟩) 0 0) (0) ([]) rfl (World.ownsRow_made _ #[] 0 (by simp) (by unfold maxLen; omega) rfl) _ _ _ (xs) rfl (rd_alloc (rd_below HR.out T3.out) _) rfl (by unfold maxLen; omega) (by omega) (by simp; try omega) ?_; intro v4 w4 hown hgrow; clear tok4; have ho : w4.ownsRow (w3.heap.size) 3 1 v4 ((xs).length) (ints (xs)) := (by rw [Nat.zero_add, List.nil_append] at hown; exact hown); obtain ⟨a4, cap4, hv⟩ := own_shape ho; subst hv; have c_A0_4 := cell_gr (cell_b c_A0_3 (below_alloc _ _)) hgrow (fun g h => by simp only [Value.ownBlock, Option.some.injEq] at h; show w.heap.size ≠ g; omega); have c_A1_4 := cell_gr (cell_b c_A1_3 (below_alloc _ _)) hgrow (fun g h => by simp only [Value.ownBlock, Option.some.injEq] at h; show w.heap.size ≠ g; omega); have c_A2_4 := cell_gr (cell_b c_A2_3 (below_alloc _ _)) hgrow (fun g h => by simp only [Value.ownBlock, Option.some.injEq] at h; show w.heap.size ≠ g; omega); have c_R0_4 := cell_gr (cell_b c_R0_3 (below_alloc _ _)) hgrow (fun g h => by simp only [Value.ownBlock, Option.some.injEq] at h; show w.heap.size + 1 ≠ g; omega); have c_R1_4 := cell_gr (cell_b c_R1_3 (below_alloc _ _)) hgrow (fun g h => by simp only [Value.ownBlock, Option.some.injEq] at h; show w.heap.size + 1 ≠ g; omega); have c_R2_4 := cell_gr (cell_b c_R2_3 (below_alloc _ _)) hgrow (fun g h => by simp only [Value.ownBlock, Option.some.injEq] at h; show w.heap.size + 1 ≠ g; omega); have f_R0_4 := (frz_gr (p := ⟨w.heap.size + 1, 0, none⟩) (cell_lt (cell_b c_R0_3 (below_alloc _ _))) hgrow (fun g h => by simp only [Value.ownBlock, Option.some.injEq] at h; show w.heap.size + 1 ≠ g; omega)).trans (frz_b (cell_lt c_R0_3) f_R0_3 (below_alloc _ _)); have f_R1_4 := (frz_gr (p := ⟨w.heap.size + 1, 1, none⟩) (cell_lt (cell_b c_R1_3 (below_alloc _ _))) hgrow (fun g h => by simp only [Value.ownBlock, Option.some.injEq] at h; show w.heap.size + 1 ≠ g; omega)).trans (frz_b (cell_lt c_R1_3) f_R1_3 (below_alloc _ _)); have f_R2_4 := (frz_gr (p := ⟨w.heap.size + 1, 2, none⟩) (cell_lt (cell_b c_R2_3 (below_alloc _ _))) hgrow (fun g h => by simp only [Value.ownBlock, Option.some.injEq] at h; show w.heap.size + 1 ≠ g; omega)).trans (frz_b (cell_lt c_R2_3) f_R2_3 (below_alloc _ _)); have z4 : w3.heap.size + 1 ≤ w4.heap.size := (by have := hgrow.size; (try simp at this); omega); have T4 := Lib.hid (below_gr (T3.out.trans ((below_alloc _ _ : Below w3.heap.size w3 _).mono T3.out.size)) (by have := T3.out.size; simp; try omega) hgrow (fun g h => by have h9 := T3.out.size; simp only [Value.ownBlock, Option.some.injEq] at h; omega)); have o_d_4 := Lib.hid ho; have lo_d := Lib.hid (own_lo o_d_4.out); have hi_d := Lib.hid (own_hi o_d_4.out); have ac_A0_4 := fun o => cell_b c_A0_4 (below_alloc _ o); have bc_A0_4 := fun o o1 => cell_b (ac_A0_4 o) (below_alloc _ o1); have dc_A0_4 := fun o o1 o2 => cell_b (bc_A0_4 o o1) (below_alloc _ o2); have ac_A1_4 := fun o => cell_b c_A1_4 (below_alloc _ o); have bc_A1_4 := fun o o1 => cell_b (ac_A1_4 o) (below_alloc _ o1); have dc_A1_4 := fun o o1 o2 => cell_b (bc_A1_4 o o1) (below_alloc _ o2); have ac_A2_4 := fun o => cell_b c_A2_4 (below_alloc _ o); have bc_A2_4 := fun o o1 => cell_b (ac_A2_4 o) (below_alloc _ o1); have dc_A2_4 := fun o o1 o2 => cell_b (bc_A2_4 o o1) (below_alloc _ o2); have ac_R0_4 := fun o => cell_b c_R0_4 (below_alloc _ o); have bc_R0_4 := fun o o1 => cell_b (ac_R0_4 o) (below_alloc _ o1); have dc_R0_4 := fun o o1 o2 => cell_b (bc_R0_4 o o1) (below_alloc _ o2); have ac_R1_4 := fun o => cell_b c_R1_4 (below_alloc _ o); have bc_R1_4 := fun o o1 => cell_b (ac_R1_4 o) (below_alloc _ o1); have dc_R1_4 := fun o o1 o2 => cell_b (bc_R1_4 o o1) (below_alloc _ o2); have ac_R2_4 := fun o => cell_b c_R2_4 (below_alloc _ o); have bc_R2_4 := fun o o1 => cell_b (ac_R2_4 o) (below_alloc _ o1); have dc_R2_4 := fun o o1 o2 => cell_b (bc_R2_4 o o1) (below_alloc _ o2); have af_R0_4 := fun o => frz_b (cell_lt c_R0_4) f_R0_4 (below_alloc _ o); have bf_R0_4 := fun o o1 => frz_b (cell_lt (ac_R0_4 o)) (af_R0_4 o) (below_alloc _ o1); have df_R0_4 := fun o o1 o2 => frz_b (cell_lt (bc_R0_4 o o1)) (bf_R0_4 o o1) (below_alloc _ o2); have af_R1_4 := fun o => frz_b (cell_lt c_R1_4) f_R1_4 (below_alloc _ o); have bf_R1_4 := fun o o1 => frz_b (cell_lt (ac_R1_4 o)) (af_R1_4 o) (below_alloc _ o1); have df_R1_4 := fun o o1 o2 => frz_b (cell_lt (bc_R1_4 o o1)) (bf_R1_4 o o1) (below_alloc _ o2); have af_R2_4 := fun o => frz_b (cell_lt c_R2_4) f_R2_4 (below_alloc _ o); have bf_R2_4 := fun o o1 => frz_b (cell_lt (ac_R2_4 o)) (af_R2_4 o) (below_alloc _ o1); have df_R2_4 := fun o o1 o2 => frz_b (cell_lt (bc_R2_4 o o1)) (bf_R2_4 o o1) (below_alloc _ o2); clear hown hgrow ho T3 ac_A0_3 bc_A0_3 dc_A0_3 ac_A1_3 bc_A1_3 dc_A1_3 ac_A2_3 bc_A2_3 dc_A2_3 ac_R0_3 bc_R0_3 dc_R0_3 ac_R1_3 bc_R1_3 dc_R1_3 ac_R2_3 bc_R2_3 dc_R2_3 af_R0_3 bf_R0_3 df_R0_3 af_R1_3 bf_R1_3 df_R1_3 af_R2_3 bf_R2_3 df_R2_3 c_A0_3 c_A1_3 c_A2_3 c_R0_3 c_R1_3 c_R2_3 f_R0_3 f_R1_3 f_R2_3) | (at_builtin; have _t := tok5; refine wpList_append_own _ rfl _ _ 24 rfl (w3.heap.size) 3 i0 (.int .i64 0) 1 8 Try.underlying24 hi hz0 hz1 hz2 rfl (by decide) (.slice a4 xs.length cap4) (xs.length) (ints (xs)) rfl (own_below (o_d_4.out) (below_alloc _ _)) ⟨w4.heap.size, 0, none⟩ 1 1 [.int .i64 (t)] rfl rfl (cell_one_new _ _ _) (ints_oneCell .i64 [t]) (by unfold maxLen; omega) (by omega) (by simp; try omega) ?_; intro v5 w5 hown hgrow _; clear tok5; have ho : w5.ownsRow (w3.heap.size) 3 1 v5 (xs.length + 1) (ints (xs ++ [t])) := (by rw [ints_append]; exact hown); obtain ⟨a5, cap5, hv⟩ := own_shape ho; subst hv; have c_A0_5 := cell_gr (cell_b c_A0_4 (below_alloc _ _)) hgrow (fun g h => by have h1 := lo_d.out g h; have h2 := hi_d.out g h; show w.heap.size ≠ g; omega); have c_A1_5 := cell_gr (cell_b c_A1_4 (below_alloc _ _)) hgrow (fun g h => by have h1 := lo_d.out g h; have h2 := hi_d.out g h; show w.heap.size ≠ g; omega); have c_A2_5 := cell_gr (cell_b c_A2_4 (below_alloc _ _)) hgrow (fun g h => by have h1 := lo_d.out g h; have h2 := hi_d.out g h; show w.heap.size ≠ g; omega); have c_R0_5 := cell_gr (cell_b c_R0_4 (below_alloc _ _)) hgrow (fun g h => by have h1 := lo_d.out g h; have h2 := hi_d.out g h; show w.heap.size + 1 ≠ g; omega); have c_R1_5 := cell_gr (cell_b c_R1_4 (below_alloc _ _)) hgrow (fun g h => by have h1 := lo_d.out g h; have h2 := hi_d.out g h; show w.heap.size + 1 ≠ g; omega); have c_R2_5 := cell_gr (cell_b c_R2_4 (below_alloc _ _)) hgrow (fun g h => by have h1 := lo_d.out g h; have h2 := hi_d.out g h; show w.heap.size + 1 ≠ g; omega); have f_R0_5 := (frz_gr (p := ⟨w.heap.size + 1, 0, none⟩) (cell_lt (cell_b c_R0_4 (below_alloc _ _))) hgrow (fun g h => by have h1 := lo_d.out g h; have h2 := hi_d.out g h; show w.heap.size + 1 ≠ g; omega)).trans (frz_b (cell_lt c_R0_4) f_R0_4 (below_alloc _ _)); have f_R1_5 := (frz_gr (p := ⟨w.heap.size + 1, 1, none⟩) (cell_lt (cell_b c_R1_4 (below_alloc _ _))) hgrow (fun g h => by have h1 := lo_d.out g h; have h2 := hi_d.out g h; show w.heap.size + 1 ≠ g; omega)).trans (frz_b (cell_lt c_R1_4) f_R1_4 (below_alloc _ _)); have f_R2_5 := (frz_gr (p := ⟨w.heap.size + 1, 2, none⟩) (cell_lt (cell_b c_R2_4 (below_alloc _ _))) hgrow (fun g h => by have h1 := lo_d.out g h; have h2 := hi_d.out g h; show w.heap.size + 1 ≠ g; omega)).trans (frz_b (cell_lt c_R2_4) f_R2_4 (below_alloc _ _)); have z5 : w4.heap.size + 1 ≤ w5.heap.size := (by have := hgrow.size; (try simp at this); omega); have T5 := Lib.hid (below_gr (T4.out.trans ((below_alloc _ _ : Below w4.heap.size w4 _).mono T4.out.size)) (by have := T4.out.size; simp; try omega) hgrow (fun g h => by have h9 := T4.out.size; have h1 := lo_d.out g h; have h2 := hi_d.out g h; omega)); have o_e_5 := Lib.hid ho; have lo_e := Lib.hid (own_lo o_e_5.out); have hi_e := Lib.hid (own_hi o_e_5.out); have ac_A0_5 := fun o => cell_b c_A0_5 (below_alloc _ o); have bc_A0_5 := fun o o1 => cell_b (ac_A0_5 o) (below_alloc _ o1); have dc_A0_5 := fun o o1 o2 => cell_b (bc_A0_5 o o1) (below_alloc _ o2); have ac_A1_5 := fun o => cell_b c_A1_5 (below_alloc _ o); have bc_A1_5 := fun o o1 => cell_b (ac_A1_5 o) (below_alloc _ o1); have dc_A1_5 := fun o o1 o2 => cell_b (bc_A1_5 o o1) (below_alloc _ o2); have ac_A2_5 := fun o => cell_b c_A2_5 (below_alloc _ o); have bc_A2_5 := fun o o1 => cell_b (ac_A2_5 o) (below_alloc _ o1); have dc_A2_5 := fun o o1 o2 => cell_b (bc_A2_5 o o1) (below_alloc _ o2); have ac_R0_5 := fun o => cell_b c_R0_5 (below_alloc _ o); have bc_R0_5 := fun o o1 => cell_b (ac_R0_5 o) (below_alloc _ o1); have dc_R0_5 := fun o o1 o2 => cell_b (bc_R0_5 o o1) (below_alloc _ o2); have ac_R1_5 := fun o => cell_b c_R1_5 (below_alloc _ o); have bc_R1_5 := fun o o1 => cell_b (ac_R1_5 o) (below_alloc _ o1); have dc_R1_5 := fun o o1 o2 => cell_b (bc_R1_5 o o1) (below_alloc _ o2); have ac_R2_5 := fun o => cell_b c_R2_5 (below_alloc _ o); have bc_R2_5 := fun o o1 => cell_b (ac_R2_5 o) (below_alloc _ o1); have dc_R2_5 := fun o o1 o2 => cell_b (bc_R2_5 o o1) (below_alloc _ o2); have af_R0_5 := fun o => frz_b (cell_lt c_R0_5) f_R0_5 (below_alloc _ o); have bf_R0_5 := fun o o1 => frz_b (cell_lt (ac_R0_5 o)) (af_R0_5 o) (below_alloc _ o1); have df_R0_5 := fun o o1 o2 => frz_b (cell_lt (bc_R0_5 o o1)) (bf_R0_5 o o1) (below_alloc _ o2); have af_R1_5 := fun o => frz_b (cell_lt c_R1_5) f_R1_5 (below_alloc _ o); have bf_R1_5 := fun o o1 => frz_b (cell_lt (ac_R1_5 o)) (af_R1_5 o) (below_alloc _ o1); have df_R1_5 := fun o o1 o2 => frz_b (cell_lt (bc_R1_5 o o1)) (bf_R1_5 o o1) (below_alloc _ o2); have af_R2_5 := fun o => frz_b (cell_lt c_R2_5) f_R2_5 (below_alloc _ o); have bf_R2_5 := fun o o1 => frz_b (cell_lt (ac_R2_5 o)) (af_R2_5 o) (below_alloc _ o1); have df_R2_5 := fun o o1 o2 => frz_b (cell_lt (bc_R2_5 o o1)) (bf_R2_5 o o1) (below_alloc _ o2); clear hown hgrow ho T4 ac_A0_4 bc_A0_4 dc_A0_4 ac_A1_4 bc_A1_4 dc_A1_4 ac_A2_4 bc_A2_4 dc_A2_4 ac_R0_4 bc_R0_4 dc_R0_4 ac_R1_4 bc_R1_4 dc_R1_4 ac_R2_4 bc_R2_4 dc_R2_4 af_R0_4 bf_R0_4 df_R0_4 af_R1_4 bf_R1_4 df_R1_4 af_R2_4 bf_R2_4 df_R2_4 c_A0_4 c_A1_4 c_A2_4 c_R0_4 c_R1_4 c_R2_4 f_R0_4 f_R1_4 f_R2_4 o_d_4))
            go_wp2_with fail
            have O5 : Ow w5 (w3.heap.size) (.slice a5 (xs.length + 1) cap5) (xs ++ [t]) := (by have := o_e_5.out; unfold Ow; rwa [show (xs ++ [t]).length = xs.length + 1 by simp])
            refine bodyPost_ret (v := .tuple #[.agg #[.int .i64 p, .int .i64 (r + 1), .slice (some ⟨w5.heap.size, 0, none⟩) 0 0], .slice a5 (xs.length + 1) cap5, .bool true]) (by simp [results, Try.results33, go_sem, ac_R0_5, ac_R1_5, ac_R2_5]) rfl ⟨some ⟨w5.heap.size, 0, none⟩, 0, a5, cap5, rfl, ?_, ?_, ne_symm (ne_lt (b := w5.heap.size) (by have := own_hi O5; exact this) (by intro g hg; simp [Value.ownBlock] at hg; omega)), ((((T5.out.alloc T5.out.size _)).setCell (by simp) _).setCell (by simp) _).setCell (by simp) _⟩
            · refine own_base (b := w5.heap.size) ?_ (by omega)
              repeat (first | exact (ow_made w5 _ (Nat.le_refl _)) | refine ownsRow_setCell_below ?_ (by show _ + 1 < _; omega) _)
            · refine own_base (b := w3.heap.size) ?_ (by omega)
              repeat (first | exact (own_below O5 (below_alloc _ _)) | refine ownsRow_setCell_below ?_ (by show _ + 1 < _; omega) _)
          · have harr : arr p r xs t = (0, 0, [], [], false) := by unfold arr; rw [hv, ht, hh']; rw [if_pos (by rfl), if_neg hp, if_neg hr9]
            obtain rfl : r = 9999 := by omega
            simp only [harr]
            clear harr
            clear hr hnc
            go_enter Try.func33, Try.ntmps33
            have T0 := Lib.hid (Below.refl w.heap.size w)
            go_wp2_with fail
            refine (S_BarrierValid _ p 9999 _ xs (rd_alloc (rd_alloc (rd_below HR.out T0.out) _) _) (by omega)).mono ?_
            rintro e w1 ⟨rfl, hb⟩
            have D1 : Below w.heap.size w w1 := below_trans (below_alloc _ _) (below_trans (below_alloc _ _) (hb))
            have T1 := Lib.hid (below_trans T0.out D1)
            have z1 : w.heap.size + 2 ≤ w1.heap.size := (by have := hb.size; (try simp at this); omega)
            have c_A0_1 := cell_b (p := ⟨w.heap.size, 0, none⟩) (v := .int .i64 p) (by simp) hb
            have c_A1_1 := cell_b (p := ⟨w.heap.size, 1, none⟩) (v := .int .i64 9999) (by simp) hb
            have c_A2_1 := cell_b (p := ⟨w.heap.size, 2, none⟩) (v := .slice a xs.length cap) (by simp) hb
            have c_R0_1 := cell_b (p := ⟨w.heap.size + 1, 0, none⟩) (v := .int .i64 0) (by simp) hb
            have f_R0_1 : w1.frozen? ⟨w.heap.size + 1, 0, none⟩ = false := (hb.frozen (p := ⟨w.heap.size + 1, 0, none⟩) (by simp; try omega)).trans (by simp)
            have c_R1_1 := cell_b (p := ⟨w.heap.size + 1, 1, none⟩) (v := .int .i64 0) (by simp) hb
            have f_R1_1 : w1.frozen? ⟨w.heap.size + 1, 1, none⟩ = false := (hb.frozen (p := ⟨w.heap.size + 1, 1, none⟩) (by simp; try omega)).trans (by simp)
            have c_R2_1 := cell_b (p := ⟨w.heap.size + 1, 2, none⟩) (v := .slice none 0 0) (by simp) hb
            have f_R2_1 : w1.frozen? ⟨w.heap.size + 1, 2, none⟩ = false := (hb.frozen (p := ⟨w.heap.size + 1, 2, none⟩) (by simp; try omega)).trans (by simp)
            have ac_A0_1 := fun o => cell_b c_A0_1 (below_alloc _ o)
            have bc_A0_1 := fun o o1 => cell_b (ac_A0_1 o) (below_alloc _ o1)
            have dc_A0_1 := fun o o1 o2 => cell_b (bc_A0_1 o o1) (below_alloc _ o2)
            have ac_A1_1 := fun o => cell_b c_A1_1 (below_alloc _ o)
            have bc_A1_1 := fun o o1 => cell_b (ac_A1_1 o) (below_alloc _ o1)
            have dc_A1_1 := fun o o1 o2 => cell_b (bc_A1_1 o o1) (below_alloc _ o2)
            have ac_A2_1 := fun o => cell_b c_A2_1 (below_alloc _ o)
            have bc_A2_1 := fun o o1 => cell_b (ac_A2_1 o) (below_alloc _ o1)
            have dc_A2_1 := fun o o1 o2 => cell_b (bc_A2_1 o o1) (below_alloc _ o2)
            have ac_R0_1 := fun o => cell_b c_R0_1 (below_alloc _ o)
            have bc_R0_1 := fun o o1 => cell_b (ac_R0_1 o) (below_alloc _ o1)
            have dc_R0_1 := fun o o1 o2 => cell_b (bc_R0_1 o o1) (below_alloc _ o2)
            have ac_R1_1 := fun o => cell_b c_R1_1 (below_alloc _ o)
            have bc_R1_1 := fun o o1 => cell_b (ac_R1_1 o) (below_alloc _ o1)
            have dc_R1_1 := fun o o1 o2 => cell_b (bc_R1_1 o o1) (below_alloc _ o2)
            have ac_R2_1 := fun o => cell_b c_R2_1 (below_alloc _ o)
            have bc_R2_1 := fun o o1 => cell_b (ac_R2_1 o) (below_alloc _ o1)
            have dc_R2_1 := fun o o1 o2 => cell_b (bc_R2_1 o o1) (below_alloc _ o2)
            have af_R0_1 := fun o => frz_b (cell_lt c_R0_1) f_R0_1 (below_alloc _ o)
            have bf_R0_1 := fun o o1 => frz_b (cell_lt (ac_R0_1 o)) (af_R0_1 o) (below_alloc _ o1)
            have df_R0_1 := fun o o1 o2 => frz_b (cell_lt (bc_R0_1 o o1)) (bf_R0_1 o o1) (below_alloc _ o2)
            have af_R1_1 := fun o => frz_b (cell_lt c_R1_1) f_R1_1 (below_alloc _ o)
            have bf_R1_1 := fun o o1 => frz_b (cell_lt (ac_R1_1 o)) (af_R1_1 o) (below_alloc _ o1)
            have df_R1_1 := fun o o1 o2 => frz_b (cell_lt (bc_R1_1 o o1)) (bf_R1_1 o o1) (below_alloc _ o2)
            have af_R2_1 := fun o => frz_b (cell_lt c_R2_1) f_R2_1 (below_alloc _ o)
            have bf_R2_1 := fun o o1 => frz_b (cell_lt (ac_R2_1 o)) (af_R2_1 o) (below_alloc _ o1)
            have df_R2_1 := fun o o1 o2 => frz_b (cell_lt (bc_R2_1 o o1)) (bf_R2_1 o o1) (below_alloc _ o2)
            clear hb D1 T0
            go_wp2_with fail
            refine (same_b (S_l1Thread _ t)).mono ?_
            rintro e w2 ⟨rfl, hb⟩
            have D2 : Below w1.heap.size w1 w2 := hb
            have c_A0_2 := cell_b c_A0_1 D2
            have c_A1_2 := cell_b c_A1_1 D2
            have c_A2_2 := cell_b c_A2_1 D2
            have c_R0_2 := cell_b c_R0_1 D2
            have c_R1_2 := cell_b c_R1_1 D2
            have c_R2_2 := cell_b c_R2_1 D2
            have f_R0_2 := (D2.frozen (p := ⟨w.heap.size + 1, 0, none⟩) (World.block_lt_of_cell? _ _ c_R0_1)).trans f_R0_1
            have f_R1_2 := (D2.frozen (p := ⟨w.heap.size + 1, 1, none⟩) (World.block_lt_of_cell? _ _ c_R1_1)).trans f_R1_1
            have f_R2_2 := (D2.frozen (p := ⟨w.heap.size + 1, 2, none⟩) (World.block_lt_of_cell? _ _ c_R2_1)).trans f_R2_1
            have T2 := Lib.hid (below_trans T1.out D2)
            have z2 : w1.heap.size ≤ w2.heap.size := (by have := hb.size; (try simp at this); omega)
            have ac_A0_2 := fun o => cell_b c_A0_2 (below_alloc _ o)
            have bc_A0_2 := fun o o1 => cell_b (ac_A0_2 o) (below_alloc _ o1)
            have dc_A0_2 := fun o o1 o2 => cell_b (bc_A0_2 o o1) (below_alloc _ o2)
            have ac_A1_2 := fun o => cell_b c_A1_2 (below_alloc _ o)
            have bc_A1_2 := fun o o1 => cell_b (ac_A1_2 o) (below_alloc _ o1)
            have dc_A1_2 := fun o o1 o2 => cell_b (bc_A1_2 o o1) (below_alloc _ o2)
            have ac_A2_2 := fun o => cell_b c_A2_2 (below_alloc _ o)
            have bc_A2_2 := fun o o1 => cell_b (ac_A2_2 o) (below_alloc _ o1)
            have dc_A2_2 := fun o o1 o2 => cell_b (bc_A2_2 o o1) (below_alloc _ o2)
            have ac_R0_2 := fun o => cell_b c_R0_2 (below_alloc _ o)
            have bc_R0_2 := fun o o1 => cell_b (ac_R0_2 o) (below_alloc _ o1)
            have dc_R0_2 := fun o o1 o2 => cell_b (bc_R0_2 o o1) (below_alloc _ o2)
            have ac_R1_2 := fun o => cell_b c_R1_2 (below_alloc _ o)
            have bc_R1_2 := fun o o1 => cell_b (ac_R1_2 o) (below_alloc _ o1)
            have dc_R1_2 := fun o o1 o2 => cell_b (bc_R1_2 o o1) (below_alloc _ o2)
            have ac_R2_2 := fun o => cell_b c_R2_2 (below_alloc _ o)
            have bc_R2_2 := fun o o1 => cell_b (ac_R2_2 o) (below_alloc _ o1)
            have dc_R2_2 := fun o o1 o2 => cell_b (bc_R2_2 o o1) (below_alloc _ o2)
            have af_R0_2 := fun o => frz_b (cell_lt c_R0_2) f_R0_2 (below_alloc _ o)
            have bf_R0_2 := fun o o1 => frz_b (cell_lt (ac_R0_2 o)) (af_R0_2 o) (below_alloc _ o1)
            have df_R0_2 := fun o o1 o2 => frz_b (cell_lt (bc_R0_2 o o1)) (bf_R0_2 o o1) (below_alloc _ o2)
            have af_R1_2 := fun o => frz_b (cell_lt c_R1_2) f_R1_2 (below_alloc _ o)
            have bf_R1_2 := fun o o1 => frz_b (cell_lt (ac_R1_2 o)) (af_R1_2 o) (below_alloc _ o1)
            have df_R1_2 := fun o o1 o2 => frz_b (cell_lt (bc_R1_2 o o1)) (bf_R1_2 o o1) (below_alloc _ o2)
            have af_R2_2 := fun o => frz_b (cell_lt c_R2_2) f_R2_2 (below_alloc _ o)
            have bf_R2_2 := fun o o1 => frz_b (cell_lt (ac_R2_2 o)) (af_R2_2 o) (below_alloc _ o1)
            have df_R2_2 := fun o o1 o2 => frz_b (cell_lt (bc_R2_2 o o1)) (bf_R2_2 o o1) (below_alloc _ o2)
            clear ac_A0_1 bc_A0_1 dc_A0_1 ac_A1_1 bc_A1_1 dc_A1_1 ac_A2_1 bc_A2_1 dc_A2_1 ac_R0_1 bc_R0_1 dc_R0_1 ac_R1_1 bc_R1_1 dc_R1_1 ac_R2_1 bc_R2_1 dc_R2_1 af_R0_1 bf_R0_1 df_R0_1 af_R1_1 bf_R1_1 df_R1_1 af_R2_1 bf_R2_1 df_R2_1 c_A0_1 c_A1_1 c_A2_1 c_R0_1 c_R1_1 c_R2_1 f_R0_1 f_R1_1 f_R2_1 hb D2 T1
            go_wp2_with fail
            refine (same_b (S_l2At _ _ xs t (rd_below HR.out T2.out) (by omega))).mono ?_
            rintro e w3 ⟨rfl, hb⟩
            have D3 : Below w2.heap.size w2 w3 := hb
            have c_A0_3 := cell_b c_A0_2 D3
            have c_A1_3 := cell_b c_A1_2 D3
            have c_A2_3 := cell_b c_A2_2 D3
            have c_R0_3 := cell_b c_R0_2 D3
            have c_R1_3 := cell_b c_R1_2 D3
            have c_R2_3 := cell_b c_R2_2 D3
            have f_R0_3 := (D3.frozen (p := ⟨w.heap.size + 1, 0, none⟩) (World.block_lt_of_cell? _ _ c_R0_2)).trans f_R0_2
            have f_R1_3 := (D3.frozen (p := ⟨w.heap.size + 1, 1, none⟩) (World.block_lt_of_cell? _ _ c_R1_2)).trans f_R1_2
            have f_R2_3 := (D3.frozen (p := ⟨w.heap.size + 1, 2, none⟩) (World.block_lt_of_cell? _ _ c_R2_2)).trans f_R2_2
            have T3 := Lib.hid (below_trans T2.out D3)
            have z3 : w2.heap.size ≤ w3.heap.size := (by have := hb.size; (try simp at this); omega)
            have ac_A0_3 := fun o => cell_b c_A0_3 (below_alloc _ o)
            have bc_A0_3 := fun o o1 => cell_b (ac_A0_3 o) (below_alloc _ o1)
            have dc_A0_3 := fun o o1 o2 => cell_b (bc_A0_3 o o1) (below_alloc _ o2)
            have ac_A1_3 := fun o => cell_b c_A1_3 (below_alloc _ o)
            have bc_A1_3 := fun o o1 => cell_b (ac_A1_3 o) (below_alloc _ o1)
            have dc_A1_3 := fun o o1 o2 => cell_b (bc_A1_3 o o1) (below_alloc _ o2)
            have ac_A2_3 := fun o => cell_b c_A2_3 (below_alloc _ o)
            have bc_A2_3 := fun o o1 => cell_b (ac_A2_3 o) (below_alloc _ o1)
            have dc_A2_3 := fun o o1 o2 => cell_b (bc_A2_3 o o1) (below_alloc _ o2)
            have ac_R0_3 := fun o => cell_b c_R0_3 (below_alloc _ o)
            have bc_R0_3 := fun o o1 => cell_b (ac_R0_3 o) (below_alloc _ o1)
            have dc_R0_3 := fun o o1 o2 => cell_b (bc_R0_3 o o1) (below_alloc _ o2)
            have ac_R1_3 := fun o => cell_b c_R1_3 (below_alloc _ o)
            have bc_R1_3 := fun o o1 => cell_b (ac_R1_3 o) (below_alloc _ o1)
            have dc_R1_3 := fun o o1 o2 => cell_b (bc_R1_3 o o1) (below_alloc _ o2)
            have ac_R2_3 := fun o => cell_b c_R2_3 (below_alloc _ o)
            have bc_R2_3 := fun o o1 => cell_b (ac_R2_3 o) (below_alloc _ o1)
            have dc_R2_3 := fun o o1 o2 => cell_b (bc_R2_3 o o1) (below_alloc _ o2)
            have af_R0_3 := fun o => frz_b (cell_lt c_R0_3) f_R0_3 (below_alloc _ o)
            have bf_R0_3 := fun o o1 => frz_b (cell_lt (ac_R0_3 o)) (af_R0_3 o) (below_alloc _ o1)
            have df_R0_3 := fun o o1 o2 => frz_b (cell_lt (bc_R0_3 o o1)) (bf_R0_3 o o1) (below_alloc _ o2)
            have af_R1_3 := fun o => frz_b (cell_lt c_R1_3) f_R1_3 (below_alloc _ o)
            have bf_R1_3 := fun o o1 => frz_b (cell_lt (ac_R1_3 o)) (af_R1_3 o) (below_alloc _ o1)
            have df_R1_3 := fun o o1 o2 => frz_b (cell_lt (bc_R1_3 o o1)) (bf_R1_3 o o1) (below_alloc _ o2)
            have af_R2_3 := fun o => frz_b (cell_lt c_R2_3) f_R2_3 (below_alloc _ o)
            have bf_R2_3 := fun o o1 => frz_b (cell_lt (ac_R2_3 o)) (af_R2_3 o) (below_alloc _ o1)
            have df_R2_3 := fun o o1 o2 => frz_b (cell_lt (bc_R2_3 o o1)) (bf_R2_3 o o1) (below_alloc _ o2)
            clear ac_A0_2 bc_A0_2 dc_A0_2 ac_A1_2 bc_A1_2 dc_A1_2 ac_A2_2 bc_A2_2 dc_A2_2 ac_R0_2 bc_R0_2 dc_R0_2 ac_R1_2 bc_R1_2 dc_R1_2 ac_R2_2 bc_R2_2 dc_R2_2 af_R0_2 bf_R0_2 df_R0_2 af_R1_2 bf_R1_2 df_R1_2 af_R2_2 bf_R2_2 df_R2_2 c_A0_2 c_A1_2 c_A2_2 c_R0_2 c_R1_2 c_R2_2 f_R0_2 f_R1_2 f_R2_2 hb D3 T2
            have tok5 : True := trivial
            have tok4 : True := trivial
            go_wp2_with (first | (at_builtin; have _t := tok4; refine wpList_append_rd rfl _ _ 24 rfl (w3.heap.size) i0 Try.underlying24 hi hz0 hz1 hz2 (.slice (some ⟨w3.heap.size, 0, none⟩) 0 0) (0) ([]) rfl (World.ownsRow_made _ #[] 0 (by simp) (by unfold maxLen; omega) rfl) _ _ _ (xs) rfl (rd_alloc (rd_below HR.out T3.out) _) rfl (by unfold maxLen; omega) (by omega) (by simp; try omega) ?_; intro v4 w4 hown hgrow; clear tok4; have ho : w4.ownsRow (w3.heap.size) 3 1 v4 ((xs).length) (ints (xs)) := (by rw [Nat.zero_add, List.nil_append] at hown; exact hown); obtain ⟨a4, cap4, hv⟩ := own_shape ho; subst hv; have c_A0_4 := cell_gr (cell_b c_A0_3 (below_alloc _ _)) hgrow (fun g h => by simp only [Value.ownBlock, Option.some.injEq] at h; show w.heap.size ≠ g; omega); have c_A1_4 := cell_gr (cell_b c_A1_3 (below_alloc _ _)) hgrow (fun g h => by simp only [Value.ownBlock, Option.some.injEq] at h; show w.heap.size ≠ g; omega); have c_A2_4 := cell_gr (cell_b c_A2_3 (below_alloc _ _)) hgrow (fun g h => by simp only [Value.ownBlock, Option.some.injEq] at h; show w.heap.size ≠ g; omega); have c_R0_4 := cell_gr (cell_b c_R0_3 (below_alloc _ _)) hgrow (fun g h => by simp only [Value.ownBlock, Option.some.injEq] at h; show w.heap.size + 1 ≠ g; omega); have c_R1_4 := cell_gr (cell_b c_R1_3 (below_alloc _ _)) hgrow (fun g h => by simp only [Value.ownBlock, Option.some.injEq] at h; show w.heap.size + 1 ≠ g; omega); have c_R2_4 := cell_gr (cell_b c_R2_3 (below_alloc _ _)) hgrow (fun g h => by simp only [Value.ownBlock, Option.some.injEq] at h; show w.heap.size + 1 ≠ g; omega); have f_R0_4 := (frz_gr (p := ⟨w.heap.size + 1, 0, none⟩) (cell_lt (cell_b c_R0_3 (below_alloc _ _))) hgrow (fun g h => by simp only [Value.ownBlock, Option.some.injEq] at h; show w.heap.size + 1 ≠ g; omega)).trans (frz_b (cell_lt c_R0_3) f_R0_3 (below_alloc _ _)); have f_R1_4 := (frz_gr (p := ⟨w.heap.size + 1, 1, none⟩) (cell_lt (cell_b c_R1_3 (below_alloc _ _))) hgrow (fun g h => by simp only [Value.ownBlock, Option.some.injEq] at h; show w.heap.size + 1 ≠ g; omega)).trans (frz_b (cell_lt c_R1_3) f_R1_3 (below_alloc _ _)); have f_R2_4 := (frz_gr (p := ⟨w.heap.size + 1, 2, none⟩) (cell_lt (cell_b c_R2_3 (below_alloc _ _))) hgrow (fun g h => by simp only [Value.ownBlock, Option.some.injEq] at h; show w.heap.size + 1 ≠ g; omega)).trans (frz_b (cell_lt c_R2_3) f_R2_3 (below_alloc _ _)); have z4 : w3.heap.size + 1 ≤ w4.heap.size := (by have := hgrow.size; (try simp at this); omega); have T4 := Lib.hid (below_gr (T3.out.trans ((below_alloc _ _ : Below w3.heap.size w3 _).mono T3.out.size)) (by have := T3.out.size; simp; try omega) hgrow (fun g h => by have h9 := T3.out.size; simp only [Value.ownBlock, Option.some.injEq] at h; omega)); have o_d_4 := Lib.hid ho; have lo_d := Lib.hid (own_lo o_d_4.out); have hi_d := Lib.hid (own_hi o_d_4.out); have ac_A0_4 := fun o => cell_b c_A0_4 (below_alloc _ o); have bc_A0_4 := fun o o1 => cell_b (ac_A0_4 o) (below_alloc _ o1); have dc_A0_4 := fun o o1 o2 => cell_b (bc_A0_4 o o1) (below_alloc _ o2); have ac_A1_4 := fun o => cell_b c_A1_4 (below_alloc _ o); have bc_A1_4 := fun o o1 => cell_b (ac_A1_4 o) (below_alloc _ o1); have dc_A1_4 := fun o o1 o2 => cell_b (bc_A1_4 o o1) (below_alloc _ o2); have ac_A2_4 := fun o => cell_b c_A2_4 (below_alloc _ o); have bc_A2_4 := fun o o1 => cell_b (ac_A2_4 o) (below_alloc _ o1); have dc_A2_4 := fun o o1 o2 => cell_b (bc_A2_4 o o1) (below_alloc _ o2); have ac_R0_4 := fun o => cell_b c_R0_4 (below_alloc _ o); have bc_R0_4 := fun o o1 => cell_b (ac_R0_4 o) (below_alloc _ o1); have dc_R0_4 := fun o o1 o2 => cell_b (bc_R0_4 o o1) (below_alloc _ o2); have ac_R1_4 := fun o => cell_b c_R1_4 (below_alloc _ o); have bc_R1_4 := fun o o1 => cell_b (ac_R1_4 o) (below_alloc _ o1); have dc_R1_4 := fun o o1 o2 => cell_b (bc_R1_4 o o1) (below_alloc _ o2); have ac_R2_4 := fun o => cell_b c_R2_4 (below_alloc _ o); have bc_R2_4 := fun o o1 => cell_b (ac_R2_4 o) (below_alloc _ o1); have dc_R2_4 := fun o o1 o2 => cell_b (bc_R2_4 o o1) (below_alloc _ o2); have af_R0_4 := fun o => frz_b (cell_lt c_R0_4) f_R0_4 (below_alloc _ o); have bf_R0_4 := fun o o1 => frz_b (cell_lt (ac_R0_4 o)) (af_R0_4 o) (below_alloc _ o1); have df_R0_4 := fun o o1 o2 => frz_b (cell_lt (bc_R0_4 o o1)) (bf_R0_4 o o1) (below_alloc _ o2); have af_R1_4 := fun o => frz_b (cell_lt c_R1_4) f_R1_4 (below_alloc _ o); have bf_R1_4 := fun o o1 => frz_b (cell_lt (ac_R1_4 o)) (af_R1_4 o) (below_alloc _ o1); have df_R1_4 := fun o o1 o2 => frz_b (cell_lt (bc_R1_4 o o1)) (bf_R1_4 o o1) (below_alloc _ o2); have af_R2_4 := fun o => frz_b (cell_lt c_R2_4) f_R2_4 (below_alloc _ o); have bf_R2_4 := fun o o1 => frz_b (cell_lt (ac_R2_4 o)) (af_R2_4 o) (below_alloc _ o1); have df_R2_4 := fun o o1 o2 => frz_b (cell_lt (bc_R2_4 o o1)) (bf_R2_4 o o1) (below_alloc _ o2); clear hown hgrow ho T3 ac_A0_3 bc_A0_3 dc_A0_3 ac_A1_3 bc_A1_3 dc_A1_3 ac_A2_3 bc_A2_3 dc_A2_3 ac_R0_3 bc_R0_3 dc_R0_3 ac_R1_3 bc_R1_3 dc_R1_3 ac_R2_3 bc_R2_3 dc_R2_3 af_R0_3 bf_R0_3 df_R0_3 af_R1_3 bf_R1_3 df_R1_3 af_R2_3 bf_R2_3 df_R2_3 c_A0_3 c_A1_3 c_A2_3 c_R0_3 c_R1_3 c_R2_3 f_R0_3 f_R1_3 f_R2_3) | (at_builtin; have _t := tok5; refine wpList_append_own _ rfl _ _ 24 rfl (w3.heap.size) 3 i0 (.int .i64 0) 1 8 Try.underlying24 hi hz0 hz1 hz2 rfl (by decide) (.slice a4 xs.length cap4) (xs.length) (ints (xs)) rfl (own_below (o_d_4.out) (below_alloc _ _)) ⟨w4.heap.size, 0, none⟩ 1 1 [.int .i64 (t)] rfl rfl (cell_one_new _ _ _) (ints_oneCell .i64 [t]) (by unfold maxLen; omega) (by omega) (by simp; try omega) ?_; intro v5 w5 hown hgrow _; clear tok5; have ho : w5.ownsRow (w3.heap.size) 3 1 v5 (xs.length + 1) (ints (xs ++ [t])) := (by rw [ints_append]; exact hown); obtain ⟨a5, cap5, hv⟩ := own_shape ho; subst hv; have c_A0_5 := cell_gr (cell_b c_A0_4 (below_alloc _ _)) hgrow (fun g h => by have h1 := lo_d.out g h; have h2 := hi_d.out g h; show w.heap.size ≠ g; omega); have c_A1_5 := cell_gr (cell_b c_A1_4 (below_alloc _ _)) hgrow (fun g h => by have h1 := lo_d.out g h; have h2 := hi_d.out g h; show w.heap.size ≠ g; omega); have c_A2_5 := cell_gr (cell_b c_A2_4 (below_alloc _ _)) hgrow (fun g h => by have h1 := lo_d.out g h; have h2 := hi_d.out g h; show w.heap.size ≠ g; omega); have c_R0_5 := cell_gr (cell_b c_R0_4 (below_alloc _ _)) hgrow (fun g h => by have h1 := lo_d.out g h; have h2 := hi_d.out g h; show w.heap.size + 1 ≠ g; omega); have c_R1_5 := cell_gr (cell_b c_R1_4 (below_alloc _ _)) hgrow (fun g h => by have h1 := lo_d.out g h; have h2 := hi_d.out g h; show w.heap.size + 1 ≠ g; omega); have c_R2_5 := cell_gr (cell_b c_R2_4 (below_alloc _ _)) hgrow (fun g h => by have h1 := lo_d.out g h; have h2 := hi_d.out g h; show w.heap.size + 1 ≠ g; omega); have f_R0_5 := (frz_gr (p := ⟨w.heap.size + 1, 0, none⟩) (cell_lt (cell_b c_R0_4 (below_alloc _ _))) hgrow (fun g h => by have h1 := lo_d.out g h; have h2 := hi_d.out g h; show w.heap.size + 1 ≠ g; omega)).trans (frz_b (cell_lt c_R0_4) f_R0_4 (below_alloc _ _)); have f_R1_5 := (frz_gr (p := ⟨w.heap.size + 1, 1, none⟩) (cell_lt (cell_b c_R1_4 (below_alloc _ _))) hgrow (fun g h => by have h1 := lo_d.out g h; have h2 := hi_d.out g h; show w.heap.size + 1 ≠ g; omega)).trans (frz_b (cell_lt c_R1_4) f_R1_4 (below_alloc _ _)); have f_R2_5 := (frz_gr (p := ⟨w.heap.size + 1, 2, none⟩) (cell_lt (cell_b c_R2_4 (below_alloc _ _))) hgrow (fun g h => by have h1 := lo_d.out g h; have h2 := hi_d.out g h; show w.heap.size + 1 ≠ g; omega)).trans (frz_b (cell_lt c_R2_4) f_R2_4 (below_alloc _ _)); have z5 : w4.heap.size + 1 ≤ w5.heap.size := (by have := hgrow.size; (try simp at this); omega); have T5 := Lib.hid (below_gr (T4.out.trans ((below_alloc _ _ : Below w4.heap.size w4 _).mono T4.out.size)) (by have := T4.out.size; simp; try omega) hgrow (fun g h => by have h9 := T4.out.size; have h1 := lo_d.out g h; have h2 := hi_d.out g h; omega)); have o_e_5 := Lib.hid ho; have lo_e := Lib.hid (own_lo o_e_5.out); have hi_e := Lib.hid (own_hi o_e_5.out); have ac_A0_5 := fun o => cell_b c_A0_5 (below_alloc _ o); have bc_A0_5 := fun o o1 => cell_b (ac_A0_5 o) (below_alloc _ o1); have dc_A0_5 := fun o o1 o2 => cell_b (bc_A0_5 o o1) (below_alloc _ o2); have ac_A1_5 := fun o => cell_b c_A1_5 (below_alloc _ o); have bc_A1_5 := fun o o1 => cell_b (ac_A1_5 o) (below_alloc _ o1); have dc_A1_5 := fun o o1 o2 => cell_b (bc_A1_5 o o1) (below_alloc _ o2); have ac_A2_5 := fun o => cell_b c_A2_5 (below_alloc _ o); have bc_A2_5 := fun o o1 => cell_b (ac_A2_5 o) (below_alloc _ o1); have dc_A2_5 := fun o o1 o2 => cell_b (bc_A2_5 o o1) (below_alloc _ o2); have ac_R0_5 := fun o => cell_b c_R0_5 (below_alloc _ o); have bc_R0_5 := fun o o1 => cell_b (ac_R0_5 o) (below_alloc _ o1); have dc_R0_5 := fun o o1 o2 => cell_b (bc_R0_5 o o1) (below_alloc _ o2); have ac_R1_5 := fun o => cell_b c_R1_5 (below_alloc _ o); have bc_R1_5 := fun o o1 => cell_b (ac_R1_5 o) (below_alloc _ o1); have dc_R1_5 := fun o o1 o2 => cell_b (bc_R1_5 o o1) (below_alloc _ o2); have ac_R2_5 := fun o => cell_b c_R2_5 (below_alloc _ o); have bc_R2_5 := fun o o1 => cell_b (ac_R2_5 o) (below_alloc _ o1); have dc_R2_5 := fun o o1 o2 => cell_b (bc_R2_5 o o1) (below_alloc _ o2); have af_R0_5 := fun o => frz_b (cell_lt c_R0_5) f_R0_5 (below_alloc _ o); have bf_R0_5 := fun o o1 => frz_b (cell_lt (ac_R0_5 o)) (af_R0_5 o) (below_alloc _ o1); have df_R0_5 := fun o o1 o2 => frz_b (cell_lt (bc_R0_5 o o1)) (bf_R0_5 o o1) (below_alloc _ o2); have af_R1_5 := fun o => frz_b (cell_lt c_R1_5) f_R1_5 (below_alloc _ o); have bf_R1_5 := fun o o1 => frz_b (cell_lt (ac_R1_5 o)) (af_R1_5 o) (below_alloc _ o1); have df_R1_5 := fun o o1 o2 => frz_b (cell_lt (bc_R1_5 o o1)) (bf_R1_5 o o1) (below_alloc _ o2); have af_R2_5 := fun o => frz_b (cell_lt c_R2_5) f_R2_5 (below_alloc _ o); have bf_R2_5 := fun o o1 => frz_b (cell_lt (ac_R2_5 o)) (af_R2_5 o) (below_alloc _ o1); have df_R2_5 := fun o o1 o2 => frz_b (cell_lt (bc_R2_5 o o1)) (bf_R2_5 o o1) (below_alloc _ o2); clear hown hgrow ho T4 ac_A0_4 bc_A0_4 dc_A0_4 ac_A1_4 bc_A1_4 dc_A1_4 ac_A2_4 bc_A2_4 dc_A2_4 ac_R0_4 bc_R0_4 dc_R0_4 ac_R1_4 bc_R1_4 dc_R1_4 ac_R2_4 bc_R2_4 dc_R2_4 af_R0_4 bf_R0_4 df_R0_4 af_R1_4 bf_R1_4 df_R1_4 af_R2_4 bf_R2_4 df_R2_4 c_A0_4 c_A1_4 c_A2_4 c_R0_4 c_R1_4 c_R2_4 f_R0_4 f_R1_4 f_R2_4 o_d_4))
            go_wp2_with fail
            refine bodyPost_ret (v := .tuple #[.agg #[.int .i64 0, .int .i64 0, .slice none 0 0], .slice (some ⟨w5.heap.size, 0, none⟩) 0 0, .bool false]) (by simp [results, Try.results33, go_sem, ac_R0_5, ac_R1_5, ac_R2_5]) rfl ⟨_, _, _, _, rfl, ow_nil _ _, ?_, ne_nil _ _ _, ((((T5.out.alloc T5.out.size _)).setCell (by simp) _).setCell (by simp) _).setCell (by simp) _⟩
            refine own_base (b := w5.heap.size) ?_ (by omega)
            repeat (first | exact (ow_made w5 _ (Nat.le_refl _)) | refine ownsRow_setCell_below ?_ (by show _ + 1 < _; omega) _)
    · have ht' : thr t = false := by simpa using ht
      have harr : arr p r xs t = (0, 0, [], [], false) := by unfold arr; rw [hv, ht']; rfl
      simp only [harr]
      clear harr ht hd
      clear hr hnc
      go_enter Try.func33, Try.ntmps33
      have T0 := Lib.hid (Below.refl w.heap.size w)
      go_wp2_with fail
      refine (S_BarrierValid _ p r _ xs (rd_alloc (rd_alloc (rd_below HR.out T0.out) _) _) (by omega)).mono ?_
      rintro e w1 ⟨rfl, hb⟩
      have D1 : Below w.heap.size w w1 := below_trans (below_alloc _ _) (below_trans (below_alloc _ _) (hb))
      have T1 := Lib.hid (below_trans T0.out D1)
      have z1 : w.heap.size + 2 ≤ w1.heap.size := (by have := hb.size; (try simp at this); omega)
      have c_A0_1 := cell_b (p := ⟨w.heap.size, 0, none⟩) (v := .int .i64 p) (by simp) hb
      have c_A1_1 := cell_b (p := ⟨w.heap.size, 1, none⟩) (v := .int .i64 r) (by simp) hb
      have c_A2_1 := cell_b (p := ⟨w.heap.size, 2, none⟩) (v := .slice a xs.length cap) (by simp) hb
      have c_R0_1 := cell_b (p := ⟨w.heap.size + 1, 0, none⟩) (v := .int .i64 0) (by simp) hb
      have f_R0_1 : w1.frozen? ⟨w.heap.size + 1, 0, none⟩ = false := (hb.frozen (p := ⟨w.heap.size + 1, 0, none⟩) (by simp; try omega)).trans (by simp)
      have c_R1_1 := cell_b (p := ⟨w.heap.size + 1, 1, none⟩) (v := .int .i64 0) (by simp) hb
      have f_R1_1 : w1.frozen? ⟨w.heap.size + 1, 1, none⟩ = false := (hb.frozen (p := ⟨w.heap.size + 1, 1, none⟩) (by simp; try omega)).trans (by simp)
      have c_R2_1 := cell_b (p := ⟨w.heap.size + 1, 2, none⟩) (v := .slice none 0 0) (by simp) hb
      have f_R2_1 : w1.frozen? ⟨w.heap.size + 1, 2, none⟩ = false := (hb.frozen (p := ⟨w.heap.size + 1, 2, none⟩) (by simp; try omega)).trans (by simp)
      have ac_A0_1 := fun o => cell_b c_A0_1 (below_alloc _ o)
      have bc_A0_1 := fun o o1 => cell_b (ac_A0_1 o) (below_alloc _ o1)
      have dc_A0_1 := fun o o1 o2 => cell_b (bc_A0_1 o o1) (below_alloc _ o2)
      have ac_A1_1 := fun o => cell_b c_A1_1 (below_alloc _ o)
      have bc_A1_1 := fun o o1 => cell_b (ac_A1_1 o) (below_alloc _ o1)
      have dc_A1_1 := fun o o1 o2 => cell_b (bc_A1_1 o o1) (below_alloc _ o2)
      have ac_A2_1 := fun o => cell_b c_A2_1 (below_alloc _ o)
      have bc_A2_1 := fun o o1 => cell_b (ac_A2_1 o) (below_alloc _ o1)
      have dc_A2_1 := fun o o1 o2 => cell_b (bc_A2_1 o o1) (below_alloc _ o2)
      have ac_R0_1 := fun o => cell_b c_R0_1 (below_alloc _ o)
      have bc_R0_1 := fun o o1 => cell_b (ac_R0_1 o) (below_alloc _ o1)
      have dc_R0_1 := fun o o1 o2 => cell_b (bc_R0_1 o o1) (below_alloc _ o2)
      have ac_R1_1 := fun o => cell_b c_R1_1 (below_alloc _ o)
      have bc_R1_1 := fun o o1 => cell_b (ac_R1_1 o) (below_alloc _ o1)
      have dc_R1_1 := fun o o1 o2 => cell_b (bc_R1_1 o o1) (below_alloc _ o2)
      have ac_R2_1 := fun o => cell_b c_R2_1 (below_alloc _ o)
      have bc_R2_1 := fun o o1 => cell_b (ac_R2_1 o) (below_alloc _ o1)
      have dc_R2_1 := fun o o1 o2 => cell_b (bc_R2_1 o o1) (below_alloc _ o2)
      have af_R0_1 := fun o => frz_b (cell_lt c_R0_1) f_R0_1 (below_alloc _ o)
      have bf_R0_1 := fun o o1 => frz_b (cell_lt (ac_R0_1 o)) (af_R0_1 o) (below_alloc _ o1)
      have df_R0_1 := fun o o1 o2 => frz_b (cell_lt (bc_R0_1 o o1)) (bf_R0_1 o o1) (below_alloc _ o2)
      have af_R1_1 := fun o => frz_b (cell_lt c_R1_1) f_R1_1 (below_alloc _ o)
      have bf_R1_1 := fun o o1 => frz_b (cell_lt (ac_R1_1 o)) (af_R1_1 o) (below_alloc _ o1)
      have df_R1_1 := fun o o1 o2 => frz_b (cell_lt (bc_R1_1 o o1)) (bf_R1_1 o o1) (below_alloc _ o2)
      have af_R2_1 := fun o => frz_b (cell_lt c_R2_1) f_R2_1 (below_alloc _ o)
      have bf_R2_1 := fun o o1 => frz_b (cell_lt (ac_R2_1 o)) (af_R2_1 o) (below_alloc _ o1)
      have df_R2_1 := fun o o1 o2 => frz_b (cell_lt (bc_R2_1 o o1)) (bf_R2_1 o o1) (below_alloc _ o2)
      clear hb D1 T0
      go_wp2_with fail
      refine (same_b (S_l1Thread _ t)).mono ?_
      rintro e w2 ⟨rfl, hb⟩
      have D2 : Below w1.heap.size w1 w2 := hb
      have c_A0_2 := cell_b c_A0_1 D2
      have c_A1_2 := cell_b c_A1_1 D2
      have c_A2_2 := cell_b c_A2_1 D2
      have c_R0_2 := cell_b c_R0_1 D2
      have c_R1_2 := cell_b c_R1_1 D2
      have c_R2_2 := cell_b c_R2_1 D2
      have f_R0_2 := (D2.frozen (p := ⟨w.heap.size + 1, 0, none⟩) (World.block_lt_of_cell? _ _ c_R0_1)).trans f_R0_1
      have f_R1_2 := (D2.frozen (p := ⟨w.heap.size + 1, 1, none⟩) (World.block_lt_of_cell? _ _ c_R1_1)).trans f_R1_1
      have f_R2_2 := (D2.frozen (p := ⟨w.heap.size + 1, 2, none⟩) (World.block_lt_of_cell? _ _ c_R2_1)).trans f_R2_1
      have T2 := Lib.hid (below_trans T1.out D2)
      have z2 : w1.heap.size ≤ w2.heap.size := (by have := hb.size; (try simp at this); omega)
      have ac_A0_2 := fun o => cell_b c_A0_2 (below_alloc _ o)
      have bc_A0_2 := fun o o1 => cell_b (ac_A0_2 o) (below_alloc _ o1)
      have dc_A0_2 := fun o o1 o2 => cell_b (bc_A0_2 o o1) (below_alloc _ o2)
      have ac_A1_2 := fun o => cell_b c_A1_2 (below_alloc _ o)
      have bc_A1_2 := fun o o1 => cell_b (ac_A1_2 o) (below_alloc _ o1)
      have dc_A1_2 := fun o o1 o2 => cell_b (bc_A1_2 o o1) (below_alloc _ o2)
      have ac_A2_2 := fun o => cell_b c_A2_2 (below_alloc _ o)
      have bc_A2_2 := fun o o1 => cell_b (ac_A2_2 o) (below_alloc _ o1)
      have dc_A2_2 := fun o o1 o2 => cell_b (bc_A2_2 o o1) (below_alloc _ o2)
      have ac_R0_2 := fun o => cell_b c_R0_2 (below_alloc _ o)
      have bc_R0_2 := fun o o1 => cell_b (ac_R0_2 o) (below_alloc _ o1)
      have dc_R0_2 := fun o o1 o2 => cell_b (bc_R0_2 o o1) (below_alloc _ o2)
      have ac_R1_2 := fun o => cell_b c_R1_2 (below_alloc _ o)
      have bc_R1_2 := fun o o1 => cell_b (ac_R1_2 o) (below_alloc _ o1)
      have dc_R1_2 := fun o o1 o2 => cell_b (bc_R1_2 o o1) (below_alloc _ o2)
      have ac_R2_2 := fun o => cell_b c_R2_2 (below_alloc _ o)
      have bc_R2_2 := fun o o1 => cell_b (ac_R2_2 o) (below_alloc _ o1)
      have dc_R2_2 := fun o o1 o2 => cell_b (bc_R2_2 o o1) (below_alloc _ o2)
      have af_R0_2 := fun o => frz_b (cell_lt c_R0_2) f_R0_2 (below_alloc _ o)
      have bf_R0_2 := fun o o1 => frz_b (cell_lt (ac_R0_2 o)) (af_R0_2 o) (below_alloc _ o1)
      have df_R0_2 := fun o o1 o2 => frz_b (cell_lt (bc_R0_2 o o1)) (bf_R0_2 o o1) (below_alloc _ o2)
      have af_R1_2 := fun o => frz_b (cell_lt c_R1_2) f_R1_2 (below_alloc _ o)
      have bf_R1_2 := fun o o1 => frz_b (cell_lt (ac_R1_2 o)) (af_R1_2 o) (below_alloc _ o1)
      have df_R1_2 := fun o o1 o2 => frz_b (cell_lt (bc_R1_2 o o1)) (bf_R1_2 o o1) (below_alloc _ o2)
      have af_R2_2 := fun o => frz_b (cell_lt c_R2_2) f_R2_2 (below_alloc _ o)
      have bf_R2_2 := fun o o1 => frz_b (cell_lt (ac_R2_2 o)) (af_R2_2 o) (below_alloc _ o1)
      have df_R2_2 := fun o o1 o2 => frz_b (cell_lt (bc_R2_2 o o1)) (bf_R2_2 o o1) (below_alloc _ o2)
      clear ac_A0_1 bc_A0_1 dc_A0_1 ac_A1_1 bc_A1_1 dc_A1_1 ac_A2_1 bc_A2_1 dc_A2_1 ac_R0_1 bc_R0_1 dc_R0_1 ac_R1_1 bc_R1_1 dc_R1_1 ac_R2_1 bc_R2_1 dc_R2_1 af_R0_1 bf_R0_1 df_R0_1 af_R1_1 bf_R1_1 df_R1_1 af_R2_1 bf_R2_1 df_R2_1 c_A0_1 c_A1_1 c_A2_1 c_R0_1 c_R1_1 c_R2_1 f_R0_1 f_R1_1 f_R2_1 hb D2 T1
      go_wp2_with fail
      refine bodyPost_ret (v := .tuple #[.agg #[.int .i64 0, .int .i64 0, .slice none 0 0], .slice (some ⟨w2.heap.size, 0, none⟩) 0 0, .bool false]) (by simp [results, Try.results33, go_sem, ac_R0_2, ac_R1_2, ac_R2_2]) rfl ⟨_, _, _, _, rfl, ow_nil _ _, ?_, ne_nil _ _ _, ((((T2.out.alloc T2.out.size _)).setCell (by simp) _).setCell (by simp) _).setCell (by simp) _⟩
      refine own_base (b := w2.heap.size) ?_ (by omega)
      repeat (first | exact (ow_made w2 _ (Nat.le_refl _)) | refine ownsRow_setCell_below ?_ (by show _ + 1 < _; omega) _)
  · have hv' : bval p r xs = false := by simpa using hv
    have harr : arr p r xs t = (0, 0, [], [], false) := by unfold arr; rw [hv']; rfl
    simp only [harr]
    clear harr hv
    clear hr hnc
    go_enter Try.func33, Try.ntmps33
    have T0 := Lib.hid (Below.refl w.heap.size w)
    go_wp2_with fail
    refine (S_BarrierValid _ p r _ xs (rd_alloc (rd_alloc (rd_below HR.out T0.out) _) _) (by omega)).mono ?_
    rintro e w1 ⟨rfl, hb⟩
    have D1 : Below w.heap.size w w1 := below_trans (below_alloc _ _) (below_trans (below_alloc _ _) (hb))
    have T1 := Lib.hid (below_trans T0.out D1)
    have z1 : w.heap.size + 2 ≤ w1.heap.size := (by have := hb.size; (try simp at this); omega)
    have c_A0_1 := cell_b (p := ⟨w.heap.size, 0, none⟩) (v := .int .i64 p) (by simp) hb
    have c_A1_1 := cell_b (p := ⟨w.heap.size, 1, none⟩) (v := .int .i64 r) (by simp) hb
    have c_A2_1 := cell_b (p := ⟨w.heap.size, 2, none⟩) (v := .slice a xs.length cap) (by simp) hb
    have c_R0_1 := cell_b (p := ⟨w.heap.size + 1, 0, none⟩) (v := .int .i64 0) (by simp) hb
    have f_R0_1 : w1.frozen? ⟨w.heap.size + 1, 0, none⟩ = false := (hb.frozen (p := ⟨w.heap.size + 1, 0, none⟩) (by simp; try omega)).trans (by simp)
    have c_R1_1 := cell_b (p := ⟨w.heap.size + 1, 1, none⟩) (v := .int .i64 0) (by simp) hb
    have f_R1_1 : w1.frozen? ⟨w.heap.size + 1, 1, none⟩ = false := (hb.frozen (p := ⟨w.heap.size + 1, 1, none⟩) (by simp; try omega)).trans (by simp)
    have c_R2_1 := cell_b (p := ⟨w.heap.size + 1, 2, none⟩) (v := .slice none 0 0) (by simp) hb
    have f_R2_1 : w1.frozen? ⟨w.heap.size + 1, 2, none⟩ = false := (hb.frozen (p := ⟨w.heap.size + 1, 2, none⟩) (by simp; try omega)).trans (by simp)
    have ac_A0_1 := fun o => cell_b c_A0_1 (below_alloc _ o)
    have bc_A0_1 := fun o o1 => cell_b (ac_A0_1 o) (below_alloc _ o1)
    have dc_A0_1 := fun o o1 o2 => cell_b (bc_A0_1 o o1) (below_alloc _ o2)
    have ac_A1_1 := fun o => cell_b c_A1_1 (below_alloc _ o)
    have bc_A1_1 := fun o o1 => cell_b (ac_A1_1 o) (below_alloc _ o1)
    have dc_A1_1 := fun o o1 o2 => cell_b (bc_A1_1 o o1) (below_alloc _ o2)
    have ac_A2_1 := fun o => cell_b c_A2_1 (below_alloc _ o)
    have bc_A2_1 := fun o o1 => cell_b (ac_A2_1 o) (below_alloc _ o1)
    have dc_A2_1 := fun o o1 o2 => cell_b (bc_A2_1 o o1) (below_alloc _ o2)
    have ac_R0_1 := fun o => cell_b c_R0_1 (below_alloc _ o)
    have bc_R0_1 := fun o o1 => cell_b (ac_R0_1 o) (below_alloc _ o1)
    have dc_R0_1 := fun o o1 o2 => cell_b (bc_R0_1 o o1) (below_alloc _ o2)
    have ac_R1_1 := fun o => cell_b c_R1_1 (below_alloc _ o)
    have bc_R1_1 := fun o o1 => cell_b (ac_R1_1 o) (below_alloc _ o1)
    have dc_R1_1 := fun o o1 o2 => cell_b (bc_R1_1 o o1) (below_alloc _ o2)
    have ac_R2_1 := fun o => cell_b c_R2_1 (below_alloc _ o)
    have bc_R2_1 := fun o o1 => cell_b (ac_R2_1 o) (below_alloc _ o1)
    have dc_R2_1 := fun o o1 o2 => cell_b (bc_R2_1 o o1) (below_alloc _ o2)
    have af_R0_1 := fun o => frz_b (cell_lt c_R0_1) f_R0_1 (below_alloc _ o)
    have bf_R0_1 := fun o o1 => frz_b (cell_lt (ac_R0_1 o)) (af_R0_1 o) (below_alloc _ o1)
    have df_R0_1 := fun o o1 o2 => frz_b (cell_lt (bc_R0_1 o o1)) (bf_R0_1 o o1) (below_alloc _ o2)
    have af_R1_1 := fun o => frz_b (cell_lt c_R1_1) f_R1_1 (below_alloc _ o)
    have bf_R1_1 := fun o o1 => frz_b (cell_lt (ac_R1_1 o)) (af_R1_1 o) (below_alloc _ o1)
    have df_R1_1 := fun o o1 o2 => frz_b (cell_lt (bc_R1_1 o o1)) (bf_R1_1 o o1) (below_alloc _ o2)
    have af_R2_1 := fun o => frz_b (cell_lt c_R2_1) f_R2_1 (below_alloc _ o)
    have bf_R2_1 := fun o o1 => frz_b (cell_lt (ac_R2_1 o)) (af_R2_1 o) (below_alloc _ o1)
    have df_R2_1 := fun o o1 o2 => frz_b (cell_lt (bc_R2_1 o o1)) (bf_R2_1 o o1) (below_alloc _ o2)
    clear hb D1 T0
    go_wp2_with fail
    refine bodyPost_ret (v := .tuple #[.agg #[.int .i64 0, .int .i64 0, .slice none 0 0], .slice (some ⟨w1.heap.size, 0, none⟩) 0 0, .bool false]) (by simp [results, Try.results33, go_sem, ac_R0_1, ac_R1_1, ac_R2_1]) rfl ⟨_, _, _, _, rfl, ow_nil _ _, ?_, ne_nil _ _ _, ((((T1.out.alloc T1.out.size _)).setCell (by simp) _).setCell (by simp) _).setCell (by simp) _⟩
    refine own_base (b := w1.heap.size) ?_ (by omega)
    repeat (first | exact (ow_made w1 _ (Nat.le_refl _)) | refine ownsRow_setCell_below ?_ (by show _ + 1 < _; omega) _)
end Go.Proofs.Ytkglngcopflgeaa
