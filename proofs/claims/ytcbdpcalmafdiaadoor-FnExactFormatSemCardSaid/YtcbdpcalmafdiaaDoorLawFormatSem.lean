/- The law FnExactFormatSem: the walk. -/
import Derived.Test.YtcbdpcalmafdiaaDoorFmtSemI
import Derived.Deep.RegionHeld3
namespace Go.Proofs.YtcbdpcalmafdiaaDoor
open Go.RowKit
set_option maxHeartbeats 4000000 in
set_option maxRecDepth 100000 in
theorem W_FnExactFormatSem (w : World) (f : Int) (l : Int) (v : Value) (xs : List (Int × Int)) (hr : RdW w v xs) (hm : xs.length ≤ 9223372036854775807) :
    Calls Tryd.prog 3 #[.agg #[.int .i64 f, .int .i64 l, v]] w fun e w' => e = .returned (.bool true) ∧ Below w.heap.size w w' := by
  have HR := Lib.hid hr
  obtain ⟨a, cap, rfl, hcap, hnc, hr⟩ := rdw_cells hr
  clear hr hnc
  by_cases hbig : 1048576 < xs.length
  · go_enter Tryd.func3, Tryd.ntmps3
    go_wp2_with (go_at_call 7; refine (L_szSem_no _ _ _ _ _ _ _ (by omega) (by omega) hm).mono ?_; rintro e w1 ⟨rfl, hb1⟩)
    go_ret
    exact ⟨rfl, below_trans (below_alloc _ _) hb1⟩
  · skip
    go_enter Tryd.func3, Tryd.ntmps3
    have T0 := Lib.hid (Below.refl w.heap.size w)
    go_wp2_with fail
    refine (L_szSem_ok _ _ _ _ _ _ _ (by omega) (by omega)).mono ?_
    rintro e w1 ⟨rfl, hb⟩
    have D1 : Below w.heap.size w w1 := below_trans (below_alloc _ _) (hb)
    have T1 := Lib.hid (below_trans T0.out D1)
    have z1 : w.heap.size + 1 ≤ w1.heap.size := (by have := hb.size; (try simp at this); omega)
    have c_aC0_1 := cell_b (p := ⟨w.heap.size, 0, none⟩) (v := .int .i64 f) (by simp) hb
    have c_aC1_1 := cell_b (p := ⟨w.heap.size, 1, none⟩) (v := .int .i64 l) (by simp) hb
    have c_aC2_1 := cell_b (p := ⟨w.heap.size, 2, none⟩) (v := .slice a xs.length cap) (by simp) hb
    have ac_aC0_1 := fun o => cell_b c_aC0_1 (below_alloc _ o)
    have bc_aC0_1 := fun o o1 => cell_b (ac_aC0_1 o) (below_alloc _ o1)
    have ac_aC1_1 := fun o => cell_b c_aC1_1 (below_alloc _ o)
    have bc_aC1_1 := fun o o1 => cell_b (ac_aC1_1 o) (below_alloc _ o1)
    have ac_aC2_1 := fun o => cell_b c_aC2_1 (below_alloc _ o)
    have bc_aC2_1 := fun o o1 => cell_b (ac_aC2_1 o) (below_alloc _ o1)
    clear hb D1 T0
    go_wp2_with fail
    refine (L_toSem _ _ _ _ xs (rdx_b HR.out T1.out) (by omega)).mono ?_
    rintro e w2 ⟨aq, cq, rfl, hq, hb⟩
    have D2 : Below w1.heap.size w1 w2 := hb
    have c_aC0_2 := cell_b c_aC0_1 D2
    have c_aC1_2 := cell_b c_aC1_1 D2
    have c_aC2_2 := cell_b c_aC2_1 D2
    have T2 := Lib.hid (below_trans T1.out D2)
    have z2 : w1.heap.size ≤ w2.heap.size := (by have := hb.size; (try simp at this); omega)
    have o_q_2 := Lib.hid (own_base hq (show w1.heap.size ≤ _ by simp; try omega))
    have lo_q := Lib.hid (own_lo o_q_2.out)
    have hi_q := Lib.hid (own_hi o_q_2.out)
    have ac_aC0_2 := fun o => cell_b c_aC0_2 (below_alloc _ o)
    have bc_aC0_2 := fun o o1 => cell_b (ac_aC0_2 o) (below_alloc _ o1)
    have ac_aC1_2 := fun o => cell_b c_aC1_2 (below_alloc _ o)
    have bc_aC1_2 := fun o o1 => cell_b (ac_aC1_2 o) (below_alloc _ o1)
    have ac_aC2_2 := fun o => cell_b c_aC2_2 (below_alloc _ o)
    have bc_aC2_2 := fun o o1 => cell_b (ac_aC2_2 o) (below_alloc _ o1)
    clear ac_aC0_1 bc_aC0_1 ac_aC1_1 bc_aC1_1 ac_aC2_1 bc_aC2_1 c_aC0_1 c_aC1_1 c_aC2_1 hb D2 hq T1
    go_wp2_with fail
    refine (S_FormatSem _ _ _ _ xs (own_rdx o_q_2.out) (by omega)).mono ?_
    rintro e w3 ⟨rfl, hb⟩
    have D3 : Below w2.heap.size w2 w3 := hb
    have c_aC0_3 := cell_b c_aC0_2 D3
    have c_aC1_3 := cell_b c_aC1_2 D3
    have c_aC2_3 := cell_b c_aC2_2 D3
    have o_q_3 := Lib.hid (own_below o_q_2.out D3)
    have T3 := Lib.hid (below_trans T2.out D3)
    have z3 : w2.heap.size ≤ w3.heap.size := (by have := hb.size; (try simp at this); omega)
    have ac_aC0_3 := fun o => cell_b c_aC0_3 (below_alloc _ o)
    have bc_aC0_3 := fun o o1 => cell_b (ac_aC0_3 o) (below_alloc _ o1)
    have ac_aC1_3 := fun o => cell_b c_aC1_3 (below_alloc _ o)
    have bc_aC1_3 := fun o o1 => cell_b (ac_aC1_3 o) (below_alloc _ o1)
    have ac_aC2_3 := fun o => cell_b c_aC2_3 (below_alloc _ o)
    have bc_aC2_3 := fun o o1 => cell_b (ac_aC2_3 o) (below_alloc _ o1)
    clear ac_aC0_2 bc_aC0_2 ac_aC1_2 bc_aC1_2 ac_aC2_2 bc_aC2_2 c_aC0_2 c_aC1_2 c_aC2_2 o_q_2 hb D3 T2
    clear o_q_3
    go_wp2_with fail
    refine (L_toSem _ _ _ _ xs (rdx_b HR.out T3.out) (by omega)).mono ?_
    rintro e w4 ⟨ax, cx, rfl, hx, hb⟩
    have D4 : Below w3.heap.size w3 w4 := hb
    have c_aC0_4 := cell_b c_aC0_3 D4
    have c_aC1_4 := cell_b c_aC1_3 D4
    have c_aC2_4 := cell_b c_aC2_3 D4
    have T4 := Lib.hid (below_trans T3.out D4)
    have z4 : w3.heap.size ≤ w4.heap.size := (by have := hb.size; (try simp at this); omega)
    have o_x_4 := Lib.hid (own_base hx (show w3.heap.size ≤ _ by simp; try omega))
    have lo_x := Lib.hid (own_lo o_x_4.out)
    have hi_x := Lib.hid (own_hi o_x_4.out)
    have ac_aC0_4 := fun o => cell_b c_aC0_4 (below_alloc _ o)
    have bc_aC0_4 := fun o o1 => cell_b (ac_aC0_4 o) (below_alloc _ o1)
    have ac_aC1_4 := fun o => cell_b c_aC1_4 (below_alloc _ o)
    have bc_aC1_4 := fun o o1 => cell_b (ac_aC1_4 o) (below_alloc _ o1)
    have ac_aC2_4 := fun o => cell_b c_aC2_4 (below_alloc _ o)
    have bc_aC2_4 := fun o o1 => cell_b (ac_aC2_4 o) (below_alloc _ o1)
    clear ac_aC0_3 bc_aC0_3 ac_aC1_3 bc_aC1_3 ac_aC2_3 bc_aC2_3 c_aC0_3 c_aC1_3 c_aC2_3 hb D4 hx T3
    go_wp2_with fail
    refine (I_FormatSem _ _ _ _ xs (rdx_alloc (own_rdx o_x_4.out) _) (by omega)).mono ?_
    rintro e w5 ⟨rfl, hb⟩
    have D5 : Below w4.heap.size w4 w5 := below_trans (below_alloc _ _) (hb)
    have c_aC0_5 := cell_b c_aC0_4 D5
    have c_aC1_5 := cell_b c_aC1_4 D5
    have c_aC2_5 := cell_b c_aC2_4 D5
    have o_x_5 := Lib.hid (own_below o_x_4.out D5)
    have T5 := Lib.hid (below_trans T4.out D5)
    have z5 : w4.heap.size + 1 ≤ w5.heap.size := (by have := hb.size; (try simp at this); omega)
    have c_x00_5 := cell_b (p := ⟨w4.heap.size, 0, none⟩) (v := .int .i64 f) (by simp) hb
    have c_x01_5 := cell_b (p := ⟨w4.heap.size, 1, none⟩) (v := .int .i64 l) (by simp) hb
    have c_x02_5 := cell_b (p := ⟨w4.heap.size, 2, none⟩) (v := .slice ax xs.length cx) (by simp) hb
    have ac_aC0_5 := fun o => cell_b c_aC0_5 (below_alloc _ o)
    have bc_aC0_5 := fun o o1 => cell_b (ac_aC0_5 o) (below_alloc _ o1)
    have ac_aC1_5 := fun o => cell_b c_aC1_5 (below_alloc _ o)
    have bc_aC1_5 := fun o o1 => cell_b (ac_aC1_5 o) (below_alloc _ o1)
    have ac_aC2_5 := fun o => cell_b c_aC2_5 (below_alloc _ o)
    have bc_aC2_5 := fun o o1 => cell_b (ac_aC2_5 o) (below_alloc _ o1)
    have ac_x00_5 := fun o => cell_b c_x00_5 (below_alloc _ o)
    have bc_x00_5 := fun o o1 => cell_b (ac_x00_5 o) (below_alloc _ o1)
    have ac_x01_5 := fun o => cell_b c_x01_5 (below_alloc _ o)
    have bc_x01_5 := fun o o1 => cell_b (ac_x01_5 o) (below_alloc _ o1)
    have ac_x02_5 := fun o => cell_b c_x02_5 (below_alloc _ o)
    have bc_x02_5 := fun o o1 => cell_b (ac_x02_5 o) (below_alloc _ o1)
    clear ac_aC0_4 bc_aC0_4 ac_aC1_4 bc_aC1_4 ac_aC2_4 bc_aC2_4 c_aC0_4 c_aC1_4 c_aC2_4 o_x_4 hb D5 T4
    go_wp2_with fail
    go_region_held3 (fun w' => w'.cell? ⟨w4.heap.size, 0, none⟩ = some (.int .i64 f) ∧ w'.cell? ⟨w4.heap.size, 1, none⟩ = some (.int .i64 l) ∧ w'.cell? ⟨w4.heap.size, 2, none⟩ = some (.slice ax xs.length cx) ∧ w'.cell? ⟨w.heap.size, 0, none⟩ = some (.int .i64 f) ∧ w'.cell? ⟨w.heap.size, 1, none⟩ = some (.int .i64 l) ∧ w'.cell? ⟨w.heap.size, 2, none⟩ = some (.slice a xs.length cap)) (first | exact ⟨c_x00_5, c_x01_5, c_x02_5, c_aC0_5, c_aC1_5, c_aC2_5⟩ | exact ⟨c_x00_6, c_x01_6, c_x02_6, c_aC0_6, c_aC1_6, c_aC2_6⟩ | exact ⟨c_x00_7, c_x01_7, c_x02_7, c_aC0_7, c_aC1_7, c_aC2_7⟩)
      (first | (go_at_call 9; refine (L_toSem _ _ _ _ xs (rdx_drew (rdx_b HR.out T5.out)) (by first | omega | (simp; try omega))).mono ?_; rintro e w6 ⟨ay, cy, rfl, hy, hb⟩; have D6 : Below w5.heap.size w5 w6 := below_trans (drew_below _) (hb); have c_aC0_6 := cell_b c_aC0_5 D6; have c_aC1_6 := cell_b c_aC1_5 D6; have c_aC2_6 := cell_b c_aC2_5 D6; have c_x00_6 := cell_b c_x00_5 D6; have c_x01_6 := cell_b c_x01_5 D6; have c_x02_6 := cell_b c_x02_5 D6; have o_x_6 := Lib.hid (own_below o_x_5.out D6); have T6 := Lib.hid (below_trans T5.out D6); have z6 : w5.heap.size ≤ w6.heap.size := (by have := hb.size; (try simp at this); omega); have o_y_6 := Lib.hid (own_base hy (show w5.heap.size ≤ _ by simp; try omega)); have lo_y := Lib.hid (own_lo o_y_6.out); have hi_y := Lib.hid (own_hi o_y_6.out); have ac_aC0_6 := fun o => cell_b c_aC0_6 (below_alloc _ o); have bc_aC0_6 := fun o o1 => cell_b (ac_aC0_6 o) (below_alloc _ o1); have ac_aC1_6 := fun o => cell_b c_aC1_6 (below_alloc _ o); have bc_aC1_6 := fun o o1 => cell_b (ac_aC1_6 o) (below_alloc _ o1); have ac_aC2_6 := fun o => cell_b c_aC2_6 (below_alloc _ o); have bc_aC2_6 := fun o o1 => cell_b (ac_aC2_6 o) (below_alloc _ o1); have ac_x00_6 := fun o => cell_b c_x00_6 (below_alloc _ o); have bc_x00_6 := fun o o1 => cell_b (ac_x00_6 o) (below_alloc _ o1); have ac_x01_6 := fun o => cell_b c_x01_6 (below_alloc _ o); have bc_x01_6 := fun o o1 => cell_b (ac_x01_6 o) (below_alloc _ o1); have ac_x02_6 := fun o => cell_b c_x02_6 (below_alloc _ o); have bc_x02_6 := fun o o1 => cell_b (ac_x02_6 o) (below_alloc _ o1); clear ac_aC0_5 bc_aC0_5 ac_aC1_5 bc_aC1_5 ac_aC2_5 bc_aC2_5 ac_x00_5 bc_x00_5 ac_x01_5 bc_x01_5 ac_x02_5 bc_x02_5 c_aC0_5 c_aC1_5 c_aC2_5 c_x00_5 c_x01_5 c_x02_5 o_x_5 hb D6 hy T5) | (go_at_call 11; refine (eqP_true (L_eqSem _ _ _ _ _ xs xs (own_rdx o_x_6.out) (own_rdx o_y_6.out) (by first | omega | (simp; try omega)) (by first | omega | (simp; try omega)))).mono ?_; rintro e w7 ⟨rfl, hb⟩; have D7 : Below w6.heap.size w6 w7 := hb; have c_aC0_7 := cell_b c_aC0_6 D7; have c_aC1_7 := cell_b c_aC1_6 D7; have c_aC2_7 := cell_b c_aC2_6 D7; have c_x00_7 := cell_b c_x00_6 D7; have c_x01_7 := cell_b c_x01_6 D7; have c_x02_7 := cell_b c_x02_6 D7; have o_x_7 := Lib.hid (own_below o_x_6.out D7); have o_y_7 := Lib.hid (own_below o_y_6.out D7); have T7 := Lib.hid (below_trans T6.out D7); have z7 : w6.heap.size ≤ w7.heap.size := (by have := hb.size; (try simp at this); omega); have ac_aC0_7 := fun o => cell_b c_aC0_7 (below_alloc _ o); have bc_aC0_7 := fun o o1 => cell_b (ac_aC0_7 o) (below_alloc _ o1); have ac_aC1_7 := fun o => cell_b c_aC1_7 (below_alloc _ o); have bc_aC1_7 := fun o o1 => cell_b (ac_aC1_7 o) (below_alloc _ o1); have ac_aC2_7 := fun o => cell_b c_aC2_7 (below_alloc _ o); have bc_aC2_7 := fun o o1 => cell_b (ac_aC2_7 o) (below_alloc _ o1); have ac_x00_7 := fun o => cell_b c_x00_7 (below_alloc _ o); have bc_x00_7 := fun o o1 => cell_b (ac_x00_7 o) (below_alloc _ o1); have ac_x01_7 := fun o => cell_b c_x01_7 (below_alloc _ o); have bc_x01_7 := fun o o1 => cell_b (ac_x01_7 o) (below_alloc _ o1); have ac_x02_7 := fun o => cell_b c_x02_7 (below_alloc _ o); have bc_x02_7 := fun o o1 => cell_b (ac_x02_7 o) (below_alloc _ o1); clear ac_aC0_6 bc_aC0_6 ac_aC1_6 bc_aC1_6 ac_aC2_6 bc_aC2_6 ac_x00_6 bc_x00_6 ac_x01_6 bc_x01_6 ac_x02_6 bc_x02_6 c_aC0_6 c_aC1_6 c_aC2_6 c_x00_6 c_x01_6 c_x02_6 o_x_6 o_y_6 hb D7 T6))
    clear o_y_7
    go_wp2_with fail
    go_ret
    exact ⟨rfl, T7.out⟩
end Go.Proofs.YtcbdpcalmafdiaaDoor
