/- The law on CondValid. -/
import Derived.Test.YtaoeacclkekokaaCond
import Derived.Deep.RegionHeld3
namespace Go.Proofs.Ytaoeacclkekokaa
open Go.RowKit
set_option maxHeartbeats 1000000 in
theorem W_FnExactCondValid (w : World) (v : Value) (xs : List Int) (hr : Rd w v xs) (hm : xs.length ≤ 9223372036854775807) :
    Calls Try.prog 7 #[.agg #[v]] w fun e w' => e = .returned (.bool true) ∧ Below w.heap.size w w' := by
  have HR := Lib.hid hr
  obtain ⟨a, cap, rfl, hcap, hnc, hr⟩ := hr
  clear hr hnc
  by_cases hbig : 1048576 < xs.length
  · go_enter Try.func7, Try.ntmps7
    go_wp2_with (go_at_call 28; refine (L_szCond_no _ _ _ _ _ (by omega) (by omega) hm).mono ?_; rintro e w1 ⟨rfl, hb1⟩)
    go_ret
    exact ⟨rfl, below_trans (below_alloc _ _) hb1⟩
  · skip
    go_enter Try.func7, Try.ntmps7
    have T0 := Lib.hid (Below.refl w.heap.size w)
    go_wp2_with fail
    refine (L_szCond_ok _ _ _ _ _ (by omega) (by omega)).mono ?_
    rintro e w1 ⟨rfl, hb⟩
    have D1 : Below w.heap.size w w1 := below_trans (below_alloc _ _) (hb)
    have T1 := Lib.hid (below_trans T0.out D1)
    have z1 := D1.size
    have c_aC0_1 := cell_b (p := ⟨w.heap.size, 0, none⟩) (v := .slice a xs.length cap) (by simp) hb
    clear hb D1 T0
    go_wp2_with fail
    refine (L_toCond _ _ xs (rd_below HR.out T1.out) (by omega)).mono ?_
    rintro e w2 ⟨a2, cap2, rfl, hq, hb⟩
    have D2 : Below w1.heap.size w1 w2 := hb
    have c_aC0_2 := cell_b c_aC0_1 D2
    have T2 := Lib.hid (below_trans T1.out D2)
    have z2 := D2.size
    have o_q_2 := Lib.hid (own_base hq (show w1.heap.size ≤ _ by simp; try omega))
    have lo_q := Lib.hid (own_lo o_q_2.out)
    have hi_q := Lib.hid (own_hi o_q_2.out)
    clear c_aC0_1 hb D2 hq T1
    go_wp2_with fail
    refine (S_CondValid _ _ xs (own_rd o_q_2.out) (by omega)).mono ?_
    rintro e w3 ⟨rfl, hb⟩
    have D3 : Below w2.heap.size w2 w3 := hb
    have c_aC0_3 := cell_b c_aC0_2 D3
    have o_q_3 := Lib.hid (own_below o_q_2.out D3)
    have T3 := Lib.hid (below_trans T2.out D3)
    have z3 := D3.size
    clear c_aC0_2 o_q_2 hb D3 T2
    clear o_q_3
    go_wp2_with fail
    refine (L_toCond _ _ xs (rd_below HR.out T3.out) (by omega)).mono ?_
    rintro e w4 ⟨a4, cap4, rfl, hx, hb⟩
    have D4 : Below w3.heap.size w3 w4 := hb
    have c_aC0_4 := cell_b c_aC0_3 D4
    have T4 := Lib.hid (below_trans T3.out D4)
    have z4 := D4.size
    have o_x_4 := Lib.hid (own_base hx (show w3.heap.size ≤ _ by simp; try omega))
    have lo_x := Lib.hid (own_lo o_x_4.out)
    have hi_x := Lib.hid (own_hi o_x_4.out)
    clear c_aC0_3 hb D4 hx T3
    go_wp2_with fail
    refine (I_CondValid _ _ xs (rd_alloc (own_rd o_x_4.out) _) (by omega)).mono ?_
    rintro e w5 ⟨rfl, hb⟩
    have D5 : Below w4.heap.size w4 w5 := below_trans (below_alloc _ _) (hb)
    have c_aC0_5 := cell_b c_aC0_4 D5
    have o_x_5 := Lib.hid (own_below o_x_4.out D5)
    have T5 := Lib.hid (below_trans T4.out D5)
    have z5 := D5.size
    have c_x00_5 := cell_b (p := ⟨w4.heap.size, 0, none⟩) (v := .slice a4 xs.length cap4) (by simp) hb
    clear c_aC0_4 o_x_4 hb D5 T4
    go_wp2_with fail
    go_region_held3 (fun w' => w'.cell? ⟨w4.heap.size, 0, none⟩ = some (.slice a4 xs.length cap4) ∧ w'.cell? ⟨w.heap.size, 0, none⟩ = some (.slice a xs.length cap)) (first | exact ⟨c_x00_5, c_aC0_5⟩ | exact ⟨c_x00_6, c_aC0_6⟩ | exact ⟨c_x00_7, c_aC0_7⟩)
      (first | (go_at_call 30; refine (L_toCond _ _ xs (rd_drew (rd_below HR.out T5.out)) (by omega)).mono ?_; rintro e w6 ⟨a6, cap6, rfl, hy, hb⟩; have D6 : Below w5.heap.size w5 w6 := below_trans (drew_below _) (hb); have c_aC0_6 := cell_b c_aC0_5 D6; have c_x00_6 := cell_b c_x00_5 D6; have o_x_6 := Lib.hid (own_below o_x_5.out D6); have T6 := Lib.hid (below_trans T5.out D6); have z6 := D6.size; have o_y_6 := Lib.hid (own_base hy (show w5.heap.size ≤ _ by simp; try omega)); have lo_y := Lib.hid (own_lo o_y_6.out); have hi_y := Lib.hid (own_hi o_y_6.out); clear c_aC0_5 c_x00_5 o_x_5 hb D6 hy T5) | (go_at_call 32; refine (eqB_true (L_eqCond _ _ _ xs xs (own_rd o_x_6.out) (own_rd o_y_6.out) (by omega) (by omega))).mono ?_; rintro e w7 ⟨rfl, hb⟩; have D7 : Below w6.heap.size w6 w7 := hb; have c_aC0_7 := cell_b c_aC0_6 D7; have c_x00_7 := cell_b c_x00_6 D7; have o_x_7 := Lib.hid (own_below o_x_6.out D7); have o_y_7 := Lib.hid (own_below o_y_6.out D7); have T7 := Lib.hid (below_trans T6.out D7); have z7 := D7.size; clear c_aC0_6 c_x00_6 o_x_6 o_y_6 hb D7 T6))
    go_wp2_with fail
    go_ret
    exact ⟨rfl, T7.out⟩
end Go.Proofs.Ytaoeacclkekokaa
