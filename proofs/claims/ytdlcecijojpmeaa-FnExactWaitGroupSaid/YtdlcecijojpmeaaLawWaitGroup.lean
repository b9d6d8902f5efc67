/- The law FnExactWaitGroup: the walk. -/
import Derived.Test.YtdlcecijojpmeaaWaitGroup
import Derived.Deep.RegionHeld3
namespace Go.Proofs.Ytdlcecijojpmeaa
open Go.RowKit
set_option maxHeartbeats 4000000 in
set_option maxRecDepth 100000 in
theorem W_FnExactWaitGroup (w : World) (c : Int) (v : Value) (xs : List Int) (t : Int) (hr : Rd w v xs) (hm : xs.length ≤ 9223372036854775807) :
    Calls Try.prog 8 #[.agg #[.int .i64 c, v], .int .i64 t] w fun e w' => e = .returned (.bool true) ∧ Below w.heap.size w w' := by
  have HR := Lib.hid hr
  obtain ⟨a, cap, rfl, hcap, hnc, hr⟩ := hr
  clear hr hnc
  by_cases hbig : 1048576 < xs.length
  · go_enter Try.func8, Try.ntmps8
    go_wp2_with (go_at_call 11; refine (L_szGroup_no _ _ _ _ _ _ (by omega) (by omega) hm).mono ?_; rintro e w1 ⟨rfl, hb1⟩)
    go_ret
    exact ⟨rfl, below_trans (below_alloc _ _) hb1⟩
  · skip
    have hl1 := wg_len c xs t
    go_enter Try.func8, Try.ntmps8
    have T0 := Lib.hid (Below.refl w.heap.size w)
    go_wp2_with fail
    refine (L_szGroup_ok _ _ _ _ _ _ (by omega) (by omega)).mono ?_
    rintro e w1 ⟨rfl, hb⟩
    have D1 : Below w.heap.size w w1 := below_trans (below_alloc _ _) (hb)
    have T1 := Lib.hid (below_trans T0.out D1)
    have z1 : w.heap.size + 1 ≤ w1.heap.size := (by have := hb.size; (try simp at this); omega)
    have c_aC0_1 := cell_b (p := ⟨w.heap.size, 0, none⟩) (v := .int .i64 c) (by simp) hb
    have c_aC1_1 := cell_b (p := ⟨w.heap.size, 1, none⟩) (v := .slice a xs.length cap) (by simp) hb
    have ac_aC0_1 := fun o => cell_b c_aC0_1 (below_alloc _ o)
    have bc_aC0_1 := fun o o1 => cell_b (ac_aC0_1 o) (below_alloc _ o1)
    have ac_aC1_1 := fun o => cell_b c_aC1_1 (below_alloc _ o)
    have bc_aC1_1 := fun o o1 => cell_b (ac_aC1_1 o) (below_alloc _ o1)
    clear hb D1 T0
    go_wp2_with fail
    refine (L_toGroup _ _ _ xs (rd_below HR.out T1.out) (by omega)).mono ?_
    rintro e w2 ⟨aq, cq, rfl, hq, hb⟩
    have D2 : Below w1.heap.size w1 w2 := hb
    have c_aC0_2 := cell_b c_aC0_1 D2
    have c_aC1_2 := cell_b c_aC1_1 D2
    have T2 := Lib.hid (below_trans T1.out D2)
    have z2 : w1.heap.size ≤ w2.heap.size := (by have := hb.size; (try simp at this); omega)
    have o_q_2 := Lib.hid (own_base hq (show w1.heap.size ≤ _ by simp; try omega))
    have lo_q := Lib.hid (own_lo o_q_2.out)
    have hi_q := Lib.hid (own_hi o_q_2.out)
    have ac_aC0_2 := fun o => cell_b c_aC0_2 (below_alloc _ o)
    have bc_aC0_2 := fun o o1 => cell_b (ac_aC0_2 o) (below_alloc _ o1)
    have ac_aC1_2 := fun o => cell_b c_aC1_2 (below_alloc _ o)
    have bc_aC1_2 := fun o o1 => cell_b (ac_aC1_2 o) (below_alloc _ o1)
    clear ac_aC0_1 bc_aC0_1 ac_aC1_1 bc_aC1_1 c_aC0_1 c_aC1_1 hb D2 hq T1
    go_wp2_with fail
    refine (S_WaitGroup _ _ _ xs _ (own_rd o_q_2.out) (by omega)).mono ?_
    rintro e w3 ⟨aW0, cW0, rfl, hW0, hb⟩
    have D3 : Below w2.heap.size w2 w3 := hb
    have c_aC0_3 := cell_b c_aC0_2 D3
    have c_aC1_3 := cell_b c_aC1_2 D3
    have o_q_3 := Lib.hid (own_below o_q_2.out D3)
    have T3 := Lib.hid (below_trans T2.out D3)
    have z3 : w2.heap.size ≤ w3.heap.size := (by have := hb.size; (try simp at this); omega)
    have o_W0_3 := Lib.hid (own_base hW0 (show w2.heap.size ≤ _ by simp; try omega))
    have lo_W0 := Lib.hid (own_lo o_W0_3.out)
    have hi_W0 := Lib.hid (own_hi o_W0_3.out)
    have ac_aC0_3 := fun o => cell_b c_aC0_3 (below_alloc _ o)
    have bc_aC0_3 := fun o o1 => cell_b (ac_aC0_3 o) (below_alloc _ o1)
    have ac_aC1_3 := fun o => cell_b c_aC1_3 (below_alloc _ o)
    have bc_aC1_3 := fun o o1 => cell_b (ac_aC1_3 o) (below_alloc _ o1)
    clear ac_aC0_2 bc_aC0_2 ac_aC1_2 bc_aC1_2 c_aC0_2 c_aC1_2 o_q_2 hb D3 hW0 T2
    clear o_q_3
    go_wp2_with fail
    refine (L_toGroup _ _ _ xs (rd_alloc (rd_below HR.out T3.out) _) (by omega)).mono ?_
    rintro e w4 ⟨ax, cx, rfl, hx, hb⟩
    have D4 : Below w3.heap.size w3 w4 := below_trans (below_alloc _ _) (hb)
    have c_aC0_4 := cell_b c_aC0_3 D4
    have c_aC1_4 := cell_b c_aC1_3 D4
    have o_W0_4 := Lib.hid (own_below o_W0_3.out D4)
    have T4 := Lib.hid (below_trans T3.out D4)
    have z4 : w3.heap.size + 1 ≤ w4.heap.size := (by have := hb.size; (try simp at this); omega)
    have c_w00_4 := cell_b (p := ⟨w3.heap.size, 0, none⟩) (v := .int .i64 (wg c xs t).1) (by simp) hb
    have c_w01_4 := cell_b (p := ⟨w3.heap.size, 1, none⟩) (v := .slice aW0 ((wg c xs t).2.1).length cW0) (by simp) hb
    have o_x_4 := Lib.hid (own_base hx (show w3.heap.size + 1 ≤ _ by simp; try omega))
    have lo_x := Lib.hid (own_lo o_x_4.out)
    have hi_x := Lib.hid (own_hi o_x_4.out)
    have ac_aC0_4 := fun o => cell_b c_aC0_4 (below_alloc _ o)
    have bc_aC0_4 := fun o o1 => cell_b (ac_aC0_4 o) (below_alloc _ o1)
    have ac_aC1_4 := fun o => cell_b c_aC1_4 (below_alloc _ o)
    have bc_aC1_4 := fun o o1 => cell_b (ac_aC1_4 o) (below_alloc _ o1)
    have ac_w00_4 := fun o => cell_b c_w00_4 (below_alloc _ o)
    have bc_w00_4 := fun o o1 => cell_b (ac_w00_4 o) (below_alloc _ o1)
    have ac_w01_4 := fun o => cell_b c_w01_4 (below_alloc _ o)
    have bc_w01_4 := fun o o1 => cell_b (ac_w01_4 o) (below_alloc _ o1)
    clear ac_aC0_3 bc_aC0_3 ac_aC1_3 bc_aC1_3 c_aC0_3 c_aC1_3 o_W0_3 hb D4 hx T3
    go_wp2_with fail
    refine (I_WaitGroup _ _ _ xs _ (rd_alloc (own_rd o_x_4.out) _) (by omega)).mono ?_
    rintro e w5 ⟨aG0, cG0, rfl, hG0, hb⟩
    have D5 : Below w4.heap.size w4 w5 := below_trans (below_alloc _ _) (hb)
    have c_aC0_5 := cell_b c_aC0_4 D5
    have c_aC1_5 := cell_b c_aC1_4 D5
    have c_w00_5 := cell_b c_w00_4 D5
    have c_w01_5 := cell_b c_w01_4 D5
    have o_W0_5 := Lib.hid (own_below o_W0_4.out D5)
    have o_x_5 := Lib.hid (own_below o_x_4.out D5)
    have T5 := Lib.hid (below_trans T4.out D5)
    have z5 : w4.heap.size + 1 ≤ w5.heap.size := (by have := hb.size; (try simp at this); omega)
    have c_x00_5 := cell_b (p := ⟨w4.heap.size, 0, none⟩) (v := .int .i64 c) (by simp) hb
    have c_x01_5 := cell_b (p := ⟨w4.heap.size, 1, none⟩) (v := .slice ax xs.length cx) (by simp) hb
    have o_G0_5 := Lib.hid (own_base hG0 (show w4.heap.size + 1 ≤ _ by simp; try omega))
    have lo_G0 := Lib.hid (own_lo o_G0_5.out)
    have hi_G0 := Lib.hid (own_hi o_G0_5.out)
    have ac_aC0_5 := fun o => cell_b c_aC0_5 (below_alloc _ o)
    have bc_aC0_5 := fun o o1 => cell_b (ac_aC0_5 o) (below_alloc _ o1)
    have ac_aC1_5 := fun o => cell_b c_aC1_5 (below_alloc _ o)
    have bc_aC1_5 := fun o o1 => cell_b (ac_aC1_5 o) (below_alloc _ o1)
    have ac_w00_5 := fun o => cell_b c_w00_5 (below_alloc _ o)
    have bc_w00_5 := fun o o1 => cell_b (ac_w00_5 o) (below_alloc _ o1)
    have ac_w01_5 := fun o => cell_b c_w01_5 (below_alloc _ o)
    have bc_w01_5 := fun o o1 => cell_b (ac_w01_5 o) (below_alloc _ o1)
    have ac_x00_5 := fun o => cell_b c_x00_5 (below_alloc _ o)
    have bc_x00_5 := fun o o1 => cell_b (ac_x00_5 o) (below_alloc _ o1)
    have ac_x01_5 := fun o => cell_b c_x01_5 (below_alloc _ o)
    have bc_x01_5 := fun o o1 => cell_b (ac_x01_5 o) (below_alloc _ o1)
    clear ac_aC0_4 bc_aC0_4 ac_aC1_4 bc_aC1_4 ac_w00_4 bc_w00_4 ac_w01_4 bc_w01_4 c_aC0_4 c_aC1_4 c_w00_4 c_w01_4 o_W0_4 o_x_4 hb D5 hG0 T4
    go_wp2_with fail
    refine (eqB_true (L_eqGroup _ _ _ _ ((wg c xs t).2.1) ((wg c xs t).2.1) (rd_alloc (own_rd o_G0_5.out) _) (rd_alloc (own_rd o_W0_5.out) _) (by first | omega | (simp; try omega)) (by first | omega | (simp; try omega)))).mono ?_
    rintro e w6 ⟨rfl, hb⟩
    have D6 : Below w5.heap.size w5 w6 := below_trans (below_alloc _ _) (hb)
    have c_aC0_6 := cell_b c_aC0_5 D6
    have c_aC1_6 := cell_b c_aC1_5 D6
    have c_w00_6 := cell_b c_w00_5 D6
    have c_w01_6 := cell_b c_w01_5 D6
    have c_x00_6 := cell_b c_x00_5 D6
    have c_x01_6 := cell_b c_x01_5 D6
    have o_W0_6 := Lib.hid (own_below o_W0_5.out D6)
    have o_x_6 := Lib.hid (own_below o_x_5.out D6)
    have o_G0_6 := Lib.hid (own_below o_G0_5.out D6)
    have T6 := Lib.hid (below_trans T5.out D6)
    have z6 : w5.heap.size + 1 ≤ w6.heap.size := (by have := hb.size; (try simp at this); omega)
    have c_g00_6 := cell_b (p := ⟨w5.heap.size, 0, none⟩) (v := .int .i64 (wg c xs t).1) (by simp) hb
    have c_g01_6 := cell_b (p := ⟨w5.heap.size, 1, none⟩) (v := .slice aG0 ((wg c xs t).2.1).length cG0) (by simp) hb
    have ac_aC0_6 := fun o => cell_b c_aC0_6 (below_alloc _ o)
    have bc_aC0_6 := fun o o1 => cell_b (ac_aC0_6 o) (below_alloc _ o1)
    have ac_aC1_6 := fun o => cell_b c_aC1_6 (below_alloc _ o)
    have bc_aC1_6 := fun o o1 => cell_b (ac_aC1_6 o) (below_alloc _ o1)
    have ac_w00_6 := fun o => cell_b c_w00_6 (below_alloc _ o)
    have bc_w00_6 := fun o o1 => cell_b (ac_w00_6 o) (below_alloc _ o1)
    have ac_w01_6 := fun o => cell_b c_w01_6 (below_alloc _ o)
    have bc_w01_6 := fun o o1 => cell_b (ac_w01_6 o) (below_alloc _ o1)
    have ac_x00_6 := fun o => cell_b c_x00_6 (below_alloc _ o)
    have bc_x00_6 := fun o o1 => cell_b (ac_x00_6 o) (below_alloc _ o1)
    have ac_x01_6 := fun o => cell_b c_x01_6 (below_alloc _ o)
    have bc_x01_6 := fun o o1 => cell_b (ac_x01_6 o) (below_alloc _ o1)
    have ac_g00_6 := fun o => cell_b c_g00_6 (below_alloc _ o)
    have bc_g00_6 := fun o o1 => cell_b (ac_g00_6 o) (below_alloc _ o1)
    have ac_g01_6 := fun o => cell_b c_g01_6 (below_alloc _ o)
    have bc_g01_6 := fun o o1 => cell_b (ac_g01_6 o) (below_alloc _ o1)
    clear ac_aC0_5 bc_aC0_5 ac_aC1_5 bc_aC1_5 ac_w00_5 bc_w00_5 ac_w01_5 bc_w01_5 ac_x00_5 bc_x00_5 ac_x01_5 bc_x01_5 c_aC0_5 c_aC1_5 c_w00_5 c_w01_5 c_x00_5 c_x01_5 o_W0_5 o_x_5 o_G0_5 hb D6 T5
    go_wp2_with fail
    go_region_held3 (fun w' => w'.cell? ⟨w4.heap.size, 0, none⟩ = some (.int .i64 c) ∧ w'.cell? ⟨w4.heap.size, 1, none⟩ = some (.slice ax xs.length cx) ∧ w'.cell? ⟨w.heap.size, 0, none⟩ = some (.int .i64 c) ∧ w'.cell? ⟨w.heap.size, 1, none⟩ = some (.slice a xs.length cap)) (first | exact ⟨c_x00_6, c_x01_6, c_aC0_6, c_aC1_6⟩ | exact ⟨c_x00_7, c_x01_7, c_aC0_7, c_aC1_7⟩ | exact ⟨c_x00_8, c_x01_8, c_aC0_8, c_aC1_8⟩)
      (first | (go_at_call 13; refine (L_toGroup _ _ _ xs (rd_drew (rd_below HR.out T6.out)) (by first | omega | (simp; try omega))).mono ?_; rintro e w7 ⟨ay, cy, rfl, hy, hb⟩; have D7 : Below w6.heap.size w6 w7 := below_trans (drew_below _) (hb); have c_aC0_7 := cell_b c_aC0_6 D7; have c_aC1_7 := cell_b c_aC1_6 D7; have c_w00_7 := cell_b c_w00_6 D7; have c_w01_7 := cell_b c_w01_6 D7; have c_x00_7 := cell_b c_x00_6 D7; have c_x01_7 := cell_b c_x01_6 D7; have c_g00_7 := cell_b c_g00_6 D7; have c_g01_7 := cell_b c_g01_6 D7; have o_W0_7 := Lib.hid (own_below o_W0_6.out D7); have o_x_7 := Lib.hid (own_below o_x_6.out D7); have o_G0_7 := Lib.hid (own_below o_G0_6.out D7); have T7 := Lib.hid (below_trans T6.out D7); have z7 : w6.heap.size ≤ w7.heap.size := (by have := hb.size; (try simp at this); omega); have o_y_7 := Lib.hid (own_base hy (show w6.heap.size ≤ _ by simp; try omega)); have lo_y := Lib.hid (own_lo o_y_7.out); have hi_y := Lib.hid (own_hi o_y_7.out); have ac_aC0_7 := fun o => cell_b c_aC0_7 (below_alloc _ o); have bc_aC0_7 := fun o o1 => cell_b (ac_aC0_7 o) (below_alloc _ o1); have ac_aC1_7 := fun o => cell_b c_aC1_7 (below_alloc _ o); have bc_aC1_7 := fun o o1 => cell_b (ac_aC1_7 o) (below_alloc _ o1); have ac_w00_7 := fun o => cell_b c_w00_7 (below_alloc _ o); have bc_w00_7 := fun o o1 => cell_b (ac_w00_7 o) (below_alloc _ o1); have ac_w01_7 := fun o => cell_b c_w01_7 (below_alloc _ o); have bc_w01_7 := fun o o1 => cell_b (ac_w01_7 o) (below_alloc _ o1); have ac_x00_7 := fun o => cell_b c_x00_7 (below_alloc _ o); have bc_x00_7 := fun o o1 => cell_b (ac_x00_7 o) (below_alloc _ o1); have ac_x01_7 := fun o => cell_b c_x01_7 (below_alloc _ o); have bc_x01_7 := fun o o1 => cell_b (ac_x01_7 o) (below_alloc _ o1); have ac_g00_7 := fun o => cell_b c_g00_7 (below_alloc _ o); have bc_g00_7 := fun o o1 => cell_b (ac_g00_7 o) (below_alloc _ o1); have ac_g01_7 := fun o => cell_b c_g01_7 (below_alloc _ o); have bc_g01_7 := fun o o1 => cell_b (ac_g01_7 o) (below_alloc _ o1); clear ac_aC0_6 bc_aC0_6 ac_aC1_6 bc_aC1_6 ac_w00_6 bc_w00_6 ac_w01_6 bc_w01_6 ac_x00_6 bc_x00_6 ac_x01_6 bc_x01_6 ac_g00_6 bc_g00_6 ac_g01_6 bc_g01_6 c_aC0_6 c_aC1_6 c_w00_6 c_w01_6 c_x00_6 c_x01_6 c_g00_6 c_g01_6 o_W0_6 o_x_6 o_G0_6 hb D7 hy T6) | (go_at_call 15; refine (eqB_true (L_eqGroup _ _ _ _ xs xs (own_rd o_x_7.out) (own_rd o_y_7.out) (by first | omega | (simp; try omega)) (by first | omega | (simp; try omega)))).mono ?_; rintro e w8 ⟨rfl, hb⟩; have D8 : Below w7.heap.size w7 w8 := hb; have c_aC0_8 := cell_b c_aC0_7 D8; have c_aC1_8 := cell_b c_aC1_7 D8; have c_w00_8 := cell_b c_w00_7 D8; have c_w01_8 := cell_b c_w01_7 D8; have c_x00_8 := cell_b c_x00_7 D8; have c_x01_8 := cell_b c_x01_7 D8; have c_g00_8 := cell_b c_g00_7 D8; have c_g01_8 := cell_b c_g01_7 D8; have o_W0_8 := Lib.hid (own_below o_W0_7.out D8); have o_x_8 := Lib.hid (own_below o_x_7.out D8); have o_G0_8 := Lib.hid (own_below o_G0_7.out D8); have o_y_8 := Lib.hid (own_below o_y_7.out D8); have T8 := Lib.hid (below_trans T7.out D8); have z8 : w7.heap.size ≤ w8.heap.size := (by have := hb.size; (try simp at this); omega); have ac_aC0_8 := fun o => cell_b c_aC0_8 (below_alloc _ o); have bc_aC0_8 := fun o o1 => cell_b (ac_aC0_8 o) (below_alloc _ o1); have ac_aC1_8 := fun o => cell_b c_aC1_8 (below_alloc _ o); have bc_aC1_8 := fun o o1 => cell_b (ac_aC1_8 o) (below_alloc _ o1); have ac_w00_8 := fun o => cell_b c_w00_8 (below_alloc _ o); have bc_w00_8 := fun o o1 => cell_b (ac_w00_8 o) (below_alloc _ o1); have ac_w01_8 := fun o => cell_b c_w01_8 (below_alloc _ o); have bc_w01_8 := fun o o1 => cell_b (ac_w01_8 o) (below_alloc _ o1); have ac_x00_8 := fun o => cell_b c_x00_8 (below_alloc _ o); have bc_x00_8 := fun o o1 => cell_b (ac_x00_8 o) (below_alloc _ o1); have ac_x01_8 := fun o => cell_b c_x01_8 (below_alloc _ o); have bc_x01_8 := fun o o1 => cell_b (ac_x01_8 o) (below_alloc _ o1); have ac_g00_8 := fun o => cell_b c_g00_8 (below_alloc _ o); have bc_g00_8 := fun o o1 => cell_b (ac_g00_8 o) (below_alloc _ o1); have ac_g01_8 := fun o => cell_b c_g01_8 (below_alloc _ o); have bc_g01_8 := fun o o1 => cell_b (ac_g01_8 o) (below_alloc _ o1); clear ac_aC0_7 bc_aC0_7 ac_aC1_7 bc_aC1_7 ac_w00_7 bc_w00_7 ac_w01_7 bc_w01_7 ac_x00_7 bc_x00_7 ac_x01_7 bc_x01_7 ac_g00_7 bc_g00_7 ac_g01_7 bc_g01_7 c_aC0_7 c_aC1_7 c_w00_7 c_w01_7 c_x00_7 c_x01_7 c_g00_7 c_g01_7 o_W0_7 o_x_7 o_G0_7 o_y_7 hb D8 T7))
    clear o_y_8
    go_wp2_with fail
    refine (L_markGroup _ _ _ _ xs _ o_x_8.out (by first | omega | (simp; try omega)) (by first | omega | (simp; try omega)) (by first | omega | (simp; try omega))).mono ?_
    rintro e w9 ⟨rfl, ho, hg⟩
    have c_aC0_9 := cell_gr c_aC0_8 hg (fun g h => by have h1 := lo_x.out g h; have h2 := hi_x.out g h; show w.heap.size ≠ g; omega)
    have c_aC1_9 := cell_gr c_aC1_8 hg (fun g h => by have h1 := lo_x.out g h; have h2 := hi_x.out g h; show w.heap.size ≠ g; omega)
    have c_w00_9 := cell_gr c_w00_8 hg (fun g h => by have h1 := lo_x.out g h; have h2 := hi_x.out g h; show w3.heap.size ≠ g; omega)
    have c_w01_9 := cell_gr c_w01_8 hg (fun g h => by have h1 := lo_x.out g h; have h2 := hi_x.out g h; show w3.heap.size ≠ g; omega)
    have c_x00_9 := cell_gr c_x00_8 hg (fun g h => by have h1 := lo_x.out g h; have h2 := hi_x.out g h; show w4.heap.size ≠ g; omega)
    have c_x01_9 := cell_gr c_x01_8 hg (fun g h => by have h1 := lo_x.out g h; have h2 := hi_x.out g h; show w4.heap.size ≠ g; omega)
    have c_g00_9 := cell_gr c_g00_8 hg (fun g h => by have h1 := lo_x.out g h; have h2 := hi_x.out g h; show w5.heap.size ≠ g; omega)
    have c_g01_9 := cell_gr c_g01_8 hg (fun g h => by have h1 := lo_x.out g h; have h2 := hi_x.out g h; show w5.heap.size ≠ g; omega)
    have o_W0_9 := Lib.hid (own_gr o_W0_8.out hg (fun g g' h h' => by have h1 := lo_x.out g h; have h2 := hi_x.out g h; have h3 := lo_W0.out g' h'; have h4 := hi_W0.out g' h'; omega))
    have o_G0_9 := Lib.hid (own_gr o_G0_8.out hg (fun g g' h h' => by have h1 := lo_x.out g h; have h2 := hi_x.out g h; have h3 := lo_G0.out g' h'; have h4 := hi_G0.out g' h'; omega))
    have o_x_9 := Lib.hid ho
    have z9 := hg.size
    have T9 := Lib.hid (below_gr T8.out (by omega) hg (fun g h => by have h1 := lo_x.out g h; omega))
    have ac_aC0_9 := fun o => cell_b c_aC0_9 (below_alloc _ o)
    have bc_aC0_9 := fun o o1 => cell_b (ac_aC0_9 o) (below_alloc _ o1)
    have ac_aC1_9 := fun o => cell_b c_aC1_9 (below_alloc _ o)
    have bc_aC1_9 := fun o o1 => cell_b (ac_aC1_9 o) (below_alloc _ o1)
    have ac_w00_9 := fun o => cell_b c_w00_9 (below_alloc _ o)
    have bc_w00_9 := fun o o1 => cell_b (ac_w00_9 o) (below_alloc _ o1)
    have ac_w01_9 := fun o => cell_b c_w01_9 (below_alloc _ o)
    have bc_w01_9 := fun o o1 => cell_b (ac_w01_9 o) (below_alloc _ o1)
    have ac_x00_9 := fun o => cell_b c_x00_9 (below_alloc _ o)
    have bc_x00_9 := fun o o1 => cell_b (ac_x00_9 o) (below_alloc _ o1)
    have ac_x01_9 := fun o => cell_b c_x01_9 (below_alloc _ o)
    have bc_x01_9 := fun o o1 => cell_b (ac_x01_9 o) (below_alloc _ o1)
    have ac_g00_9 := fun o => cell_b c_g00_9 (below_alloc _ o)
    have bc_g00_9 := fun o o1 => cell_b (ac_g00_9 o) (below_alloc _ o1)
    have ac_g01_9 := fun o => cell_b c_g01_9 (below_alloc _ o)
    have bc_g01_9 := fun o o1 => cell_b (ac_g01_9 o) (below_alloc _ o1)
    clear ho hg T8 o_x_8 ac_aC0_8 bc_aC0_8 ac_aC1_8 bc_aC1_8 ac_w00_8 bc_w00_8 ac_w01_8 bc_w01_8 ac_x00_8 bc_x00_8 ac_x01_8 bc_x01_8 ac_g00_8 bc_g00_8 ac_g01_8 bc_g01_8 c_aC0_8 c_aC1_8 c_w00_8 c_w01_8 c_x00_8 c_x01_8 c_g00_8 c_g01_8 o_W0_8 o_G0_8
    go_wp2_with fail
    refine (eqB_true (L_eqGroup _ _ _ _ ((wg c xs t).2.1) ((wg c xs t).2.1) (own_rd o_G0_9.out) (own_rd o_W0_9.out) (by first | omega | (simp; try omega)) (by first | omega | (simp; try omega)))).mono ?_
    rintro e w10 ⟨rfl, hb⟩
    have D10 : Below w9.heap.size w9 w10 := hb
    have c_aC0_10 := cell_b c_aC0_9 D10
    have c_aC1_10 := cell_b c_aC1_9 D10
    have c_w00_10 := cell_b c_w00_9 D10
    have c_w01_10 := cell_b c_w01_9 D10
    have c_x00_10 := cell_b c_x00_9 D10
    have c_x01_10 := cell_b c_x01_9 D10
    have c_g00_10 := cell_b c_g00_9 D10
    have c_g01_10 := cell_b c_g01_9 D10
    have o_W0_10 := Lib.hid (own_below o_W0_9.out D10)
    have o_x_10 := Lib.hid (own_below o_x_9.out D10)
    have o_G0_10 := Lib.hid (own_below o_G0_9.out D10)
    have T10 := Lib.hid (below_trans T9.out D10)
    have z10 : w9.heap.size ≤ w10.heap.size := (by have := hb.size; (try simp at this); omega)
    have ac_aC0_10 := fun o => cell_b c_aC0_10 (below_alloc _ o)
    have bc_aC0_10 := fun o o1 => cell_b (ac_aC0_10 o) (below_alloc _ o1)
    have ac_aC1_10 := fun o => cell_b c_aC1_10 (below_alloc _ o)
    have bc_aC1_10 := fun o o1 => cell_b (ac_aC1_10 o) (below_alloc _ o1)
    have ac_w00_10 := fun o => cell_b c_w00_10 (below_alloc _ o)
    have bc_w00_10 := fun o o1 => cell_b (ac_w00_10 o) (below_alloc _ o1)
    have ac_w01_10 := fun o => cell_b c_w01_10 (below_alloc _ o)
    have bc_w01_10 := fun o o1 => cell_b (ac_w01_10 o) (below_alloc _ o1)
    have ac_x00_10 := fun o => cell_b c_x00_10 (below_alloc _ o)
    have bc_x00_10 := fun o o1 => cell_b (ac_x00_10 o) (below_alloc _ o1)
    have ac_x01_10 := fun o => cell_b c_x01_10 (below_alloc _ o)
    have bc_x01_10 := fun o o1 => cell_b (ac_x01_10 o) (below_alloc _ o1)
    have ac_g00_10 := fun o => cell_b c_g00_10 (below_alloc _ o)
    have bc_g00_10 := fun o o1 => cell_b (ac_g00_10 o) (below_alloc _ o1)
    have ac_g01_10 := fun o => cell_b c_g01_10 (below_alloc _ o)
    have bc_g01_10 := fun o o1 => cell_b (ac_g01_10 o) (below_alloc _ o1)
    clear ac_aC0_9 bc_aC0_9 ac_aC1_9 bc_aC1_9 ac_w00_9 bc_w00_9 ac_w01_9 bc_w01_9 ac_x00_9 bc_x00_9 ac_x01_9 bc_x01_9 ac_g00_9 bc_g00_9 ac_g01_9 bc_g01_9 c_aC0_9 c_aC1_9 c_w00_9 c_w01_9 c_x00_9 c_x01_9 c_g00_9 c_g01_9 o_W0_9 o_x_9 o_G0_9 hb D10 T9
    clear o_x_10 c_x00_10 c_x01_10 ac_x00_10 bc_x00_10 ac_x01_10 bc_x01_10
    go_wp2_with fail
    refine (L_markGroup _ _ _ _ ((wg c xs t).2.1) _ o_G0_10.out (by first | omega | (simp; try omega)) (by first | omega | (simp; try omega)) (by first | omega | (simp; try omega))).mono ?_
    rintro e w11 ⟨rfl, ho, hg⟩
    have c_aC0_11 := cell_gr c_aC0_10 hg (fun g h => by have h1 := lo_G0.out g h; have h2 := hi_G0.out g h; show w.heap.size ≠ g; omega)
    have c_aC1_11 := cell_gr c_aC1_10 hg (fun g h => by have h1 := lo_G0.out g h; have h2 := hi_G0.out g h; show w.heap.size ≠ g; omega)
    have c_w00_11 := cell_gr c_w00_10 hg (fun g h => by have h1 := lo_G0.out g h; have h2 := hi_G0.out g h; show w3.heap.size ≠ g; omega)
    have c_w01_11 := cell_gr c_w01_10 hg (fun g h => by have h1 := lo_G0.out g h; have h2 := hi_G0.out g h; show w3.heap.size ≠ g; omega)
    have c_g00_11 := cell_gr c_g00_10 hg (fun g h => by have h1 := lo_G0.out g h; have h2 := hi_G0.out g h; show w5.heap.size ≠ g; omega)
    have c_g01_11 := cell_gr c_g01_10 hg (fun g h => by have h1 := lo_G0.out g h; have h2 := hi_G0.out g h; show w5.heap.size ≠ g; omega)
    have o_W0_11 := Lib.hid (own_gr o_W0_10.out hg (fun g g' h h' => by have h1 := lo_G0.out g h; have h2 := hi_G0.out g h; have h3 := lo_W0.out g' h'; have h4 := hi_W0.out g' h'; omega))
    have o_G0_11 := Lib.hid ho
    have z11 := hg.size
    have T11 := Lib.hid (below_gr T10.out (by omega) hg (fun g h => by have h1 := lo_G0.out g h; omega))
    have ac_aC0_11 := fun o => cell_b c_aC0_11 (below_alloc _ o)
    have bc_aC0_11 := fun o o1 => cell_b (ac_aC0_11 o) (below_alloc _ o1)
    have ac_aC1_11 := fun o => cell_b c_aC1_11 (below_alloc _ o)
    have bc_aC1_11 := fun o o1 => cell_b (ac_aC1_11 o) (below_alloc _ o1)
    have ac_w00_11 := fun o => cell_b c_w00_11 (below_alloc _ o)
    have bc_w00_11 := fun o o1 => cell_b (ac_w00_11 o) (below_alloc _ o1)
    have ac_w01_11 := fun o => cell_b c_w01_11 (below_alloc _ o)
    have bc_w01_11 := fun o o1 => cell_b (ac_w01_11 o) (below_alloc _ o1)
    have ac_g00_11 := fun o => cell_b c_g00_11 (below_alloc _ o)
    have bc_g00_11 := fun o o1 => cell_b (ac_g00_11 o) (below_alloc _ o1)
    have ac_g01_11 := fun o => cell_b c_g01_11 (below_alloc _ o)
    have bc_g01_11 := fun o o1 => cell_b (ac_g01_11 o) (below_alloc _ o1)
    clear ho hg T10 o_G0_10 ac_aC0_10 bc_aC0_10 ac_aC1_10 bc_aC1_10 ac_w00_10 bc_w00_10 ac_w01_10 bc_w01_10 ac_g00_10 bc_g00_10 ac_g01_10 bc_g01_10 c_aC0_10 c_aC1_10 c_w00_10 c_w01_10 c_g00_10 c_g01_10 o_W0_10
    go_wp2_with fail
    refine (L_heldGroup _ _ _ ((wg c xs t).2.1).length _ (own_rd o_G0_11.out) (by first | omega | (simp; try omega)) (by first | omega | (simp; try omega)) (by first | omega | (simp; try omega))).mono ?_
    rintro e w12 ⟨rfl, hb⟩
    have D12 : Below w11.heap.size w11 w12 := hb
    have c_aC0_12 := cell_b c_aC0_11 D12
    have c_aC1_12 := cell_b c_aC1_11 D12
    have c_w00_12 := cell_b c_w00_11 D12
    have c_w01_12 := cell_b c_w01_11 D12
    have c_g00_12 := cell_b c_g00_11 D12
    have c_g01_12 := cell_b c_g01_11 D12
    have o_W0_12 := Lib.hid (own_below o_W0_11.out D12)
    have o_G0_12 := Lib.hid (own_below o_G0_11.out D12)
    have T12 := Lib.hid (below_trans T11.out D12)
    have z12 : w11.heap.size ≤ w12.heap.size := (by have := hb.size; (try simp at this); omega)
    have ac_aC0_12 := fun o => cell_b c_aC0_12 (below_alloc _ o)
    have bc_aC0_12 := fun o o1 => cell_b (ac_aC0_12 o) (below_alloc _ o1)
    have ac_aC1_12 := fun o => cell_b c_aC1_12 (below_alloc _ o)
    have bc_aC1_12 := fun o o1 => cell_b (ac_aC1_12 o) (below_alloc _ o1)
    have ac_w00_12 := fun o => cell_b c_w00_12 (below_alloc _ o)
    have bc_w00_12 := fun o o1 => cell_b (ac_w00_12 o) (below_alloc _ o1)
    have ac_w01_12 := fun o => cell_b c_w01_12 (below_alloc _ o)
    have bc_w01_12 := fun o o1 => cell_b (ac_w01_12 o) (below_alloc _ o1)
    have ac_g00_12 := fun o => cell_b c_g00_12 (below_alloc _ o)
    have bc_g00_12 := fun o o1 => cell_b (ac_g00_12 o) (below_alloc _ o1)
    have ac_g01_12 := fun o => cell_b c_g01_12 (below_alloc _ o)
    have bc_g01_12 := fun o o1 => cell_b (ac_g01_12 o) (below_alloc _ o1)
    clear ac_aC0_11 bc_aC0_11 ac_aC1_11 bc_aC1_11 ac_w00_11 bc_w00_11 ac_w01_11 bc_w01_11 ac_g00_11 bc_g00_11 ac_g01_11 bc_g01_11 c_aC0_11 c_aC1_11 c_w00_11 c_w01_11 c_g00_11 c_g01_11 o_W0_11 o_G0_11 hb D12 T11
    go_wp2_with fail
    refine (L_toGroup _ _ _ xs (rd_below HR.out T12.out) (by omega)).mono ?_
    rintro e w13 ⟨az, cz, rfl, hz, hb⟩
    have D13 : Below w12.heap.size w12 w13 := hb
    have c_aC0_13 := cell_b c_aC0_12 D13
    have c_aC1_13 := cell_b c_aC1_12 D13
    have c_w00_13 := cell_b c_w00_12 D13
    have c_w01_13 := cell_b c_w01_12 D13
    have c_g00_13 := cell_b c_g00_12 D13
    have c_g01_13 := cell_b c_g01_12 D13
    have o_W0_13 := Lib.hid (own_below o_W0_12.out D13)
    have o_G0_13 := Lib.hid (own_below o_G0_12.out D13)
    have T13 := Lib.hid (below_trans T12.out D13)
    have z13 : w12.heap.size ≤ w13.heap.size := (by have := hb.size; (try simp at this); omega)
    have o_z_13 := Lib.hid (own_base hz (show w12.heap.size ≤ _ by simp; try omega))
    have lo_z := Lib.hid (own_lo o_z_13.out)
    have hi_z := Lib.hid (own_hi o_z_13.out)
    have ac_aC0_13 := fun o => cell_b c_aC0_13 (below_alloc _ o)
    have bc_aC0_13 := fun o o1 => cell_b (ac_aC0_13 o) (below_alloc _ o1)
    have ac_aC1_13 := fun o => cell_b c_aC1_13 (below_alloc _ o)
    have bc_aC1_13 := fun o o1 => cell_b (ac_aC1_13 o) (below_alloc _ o1)
    have ac_w00_13 := fun o => cell_b c_w00_13 (below_alloc _ o)
    have bc_w00_13 := fun o o1 => cell_b (ac_w00_13 o) (below_alloc _ o1)
    have ac_w01_13 := fun o => cell_b c_w01_13 (below_alloc _ o)
    have bc_w01_13 := fun o o1 => cell_b (ac_w01_13 o) (below_alloc _ o1)
    have ac_g00_13 := fun o => cell_b c_g00_13 (below_alloc _ o)
    have bc_g00_13 := fun o o1 => cell_b (ac_g00_13 o) (below_alloc _ o1)
    have ac_g01_13 := fun o => cell_b c_g01_13 (below_alloc _ o)
    have bc_g01_13 := fun o o1 => cell_b (ac_g01_13 o) (below_alloc _ o1)
    clear ac_aC0_12 bc_aC0_12 ac_aC1_12 bc_aC1_12 ac_w00_12 bc_w00_12 ac_w01_12 bc_w01_12 ac_g00_12 bc_g00_12 ac_g01_12 bc_g01_12 c_aC0_12 c_aC1_12 c_w00_12 c_w01_12 c_g00_12 c_g01_12 o_W0_12 o_G0_12 hb D13 hz T12
    go_wp2_with fail
    refine (I_WaitGroup _ _ _ xs _ (own_rd o_z_13.out) (by omega)).mono ?_
    rintro e w14 ⟨aH0, cH0, rfl, hH0, hb⟩
    have D14 : Below w13.heap.size w13 w14 := hb
    have c_aC0_14 := cell_b c_aC0_13 D14
    have c_aC1_14 := cell_b c_aC1_13 D14
    have c_w00_14 := cell_b c_w00_13 D14
    have c_w01_14 := cell_b c_w01_13 D14
    have c_g00_14 := cell_b c_g00_13 D14
    have c_g01_14 := cell_b c_g01_13 D14
    have o_W0_14 := Lib.hid (own_below o_W0_13.out D14)
    have o_G0_14 := Lib.hid (own_below o_G0_13.out D14)
    have o_z_14 := Lib.hid (own_below o_z_13.out D14)
    have T14 := Lib.hid (below_trans T13.out D14)
    have z14 : w13.heap.size ≤ w14.heap.size := (by have := hb.size; (try simp at this); omega)
    have o_H0_14 := Lib.hid (own_base hH0 (show w13.heap.size ≤ _ by simp; try omega))
    have lo_H0 := Lib.hid (own_lo o_H0_14.out)
    have hi_H0 := Lib.hid (own_hi o_H0_14.out)
    have ac_aC0_14 := fun o => cell_b c_aC0_14 (below_alloc _ o)
    have bc_aC0_14 := fun o o1 => cell_b (ac_aC0_14 o) (below_alloc _ o1)
    have ac_aC1_14 := fun o => cell_b c_aC1_14 (below_alloc _ o)
    have bc_aC1_14 := fun o o1 => cell_b (ac_aC1_14 o) (below_alloc _ o1)
    have ac_w00_14 := fun o => cell_b c_w00_14 (below_alloc _ o)
    have bc_w00_14 := fun o o1 => cell_b (ac_w00_14 o) (below_alloc _ o1)
    have ac_w01_14 := fun o => cell_b c_w01_14 (below_alloc _ o)
    have bc_w01_14 := fun o o1 => cell_b (ac_w01_14 o) (below_alloc _ o1)
    have ac_g00_14 := fun o => cell_b c_g00_14 (below_alloc _ o)
    have bc_g00_14 := fun o o1 => cell_b (ac_g00_14 o) (below_alloc _ o1)
    have ac_g01_14 := fun o => cell_b c_g01_14 (below_alloc _ o)
    have bc_g01_14 := fun o o1 => cell_b (ac_g01_14 o) (below_alloc _ o1)
    clear ac_aC0_13 bc_aC0_13 ac_aC1_13 bc_aC1_13 ac_w00_13 bc_w00_13 ac_w01_13 bc_w01_13 ac_g00_13 bc_g00_13 ac_g01_13 bc_g01_13 c_aC0_13 c_aC1_13 c_w00_13 c_w01_13 c_g00_13 c_g01_13 o_W0_13 o_G0_13 o_z_13 hb D14 hH0 T13
    clear o_z_14
    go_wp2_with fail
    refine (eqB_true (L_eqGroup _ _ _ _ ((wg c xs t).2.1) ((wg c xs t).2.1) (rd_alloc (own_rd o_H0_14.out) _) (rd_alloc (own_rd o_W0_14.out) _) (by first | omega | (simp; try omega)) (by first | omega | (simp; try omega)))).mono ?_
    rintro e w15 ⟨rfl, hb⟩
    have D15 : Below w14.heap.size w14 w15 := below_trans (below_alloc _ _) (hb)
    have c_aC0_15 := cell_b c_aC0_14 D15
    have c_aC1_15 := cell_b c_aC1_14 D15
    have c_w00_15 := cell_b c_w00_14 D15
    have c_w01_15 := cell_b c_w01_14 D15
    have c_g00_15 := cell_b c_g00_14 D15
    have c_g01_15 := cell_b c_g01_14 D15
    have o_W0_15 := Lib.hid (own_below o_W0_14.out D15)
    have o_G0_15 := Lib.hid (own_below o_G0_14.out D15)
    have o_H0_15 := Lib.hid (own_below o_H0_14.out D15)
    have T15 := Lib.hid (below_trans T14.out D15)
    have z15 : w14.heap.size + 1 ≤ w15.heap.size := (by have := hb.size; (try simp at this); omega)
    have c_h00_15 := cell_b (p := ⟨w14.heap.size, 0, none⟩) (v := .int .i64 (wg c xs t).1) (by simp) hb
    have c_h01_15 := cell_b (p := ⟨w14.heap.size, 1, none⟩) (v := .slice aH0 ((wg c xs t).2.1).length cH0) (by simp) hb
    have ac_aC0_15 := fun o => cell_b c_aC0_15 (below_alloc _ o)
    have bc_aC0_15 := fun o o1 => cell_b (ac_aC0_15 o) (below_alloc _ o1)
    have ac_aC1_15 := fun o => cell_b c_aC1_15 (below_alloc _ o)
    have bc_aC1_15 := fun o o1 => cell_b (ac_aC1_15 o) (below_alloc _ o1)
    have ac_w00_15 := fun o => cell_b c_w00_15 (below_alloc _ o)
    have bc_w00_15 := fun o o1 => cell_b (ac_w00_15 o) (below_alloc _ o1)
    have ac_w01_15 := fun o => cell_b c_w01_15 (below_alloc _ o)
    have bc_w01_15 := fun o o1 => cell_b (ac_w01_15 o) (below_alloc _ o1)
    have ac_g00_15 := fun o => cell_b c_g00_15 (below_alloc _ o)
    have bc_g00_15 := fun o o1 => cell_b (ac_g00_15 o) (below_alloc _ o1)
    have ac_g01_15 := fun o => cell_b c_g01_15 (below_alloc _ o)
    have bc_g01_15 := fun o o1 => cell_b (ac_g01_15 o) (below_alloc _ o1)
    have ac_h00_15 := fun o => cell_b c_h00_15 (below_alloc _ o)
    have bc_h00_15 := fun o o1 => cell_b (ac_h00_15 o) (below_alloc _ o1)
    have ac_h01_15 := fun o => cell_b c_h01_15 (below_alloc _ o)
    have bc_h01_15 := fun o o1 => cell_b (ac_h01_15 o) (below_alloc _ o1)
    clear ac_aC0_14 bc_aC0_14 ac_aC1_14 bc_aC1_14 ac_w00_14 bc_w00_14 ac_w01_14 bc_w01_14 ac_g00_14 bc_g00_14 ac_g01_14 bc_g01_14 c_aC0_14 c_aC1_14 c_w00_14 c_w01_14 c_g00_14 c_g01_14 o_W0_14 o_G0_14 o_H0_14 hb D15 T14
    go_wp2_with fail
    refine (L_heldGroup _ _ _ ((wg c xs t).2.1).length _ (own_rd o_G0_15.out) (by first | omega | (simp; try omega)) (by first | omega | (simp; try omega)) (by first | omega | (simp; try omega))).mono ?_
    rintro e w16 ⟨rfl, hb⟩
    have D16 : Below w15.heap.size w15 w16 := hb
    have c_aC0_16 := cell_b c_aC0_15 D16
    have c_aC1_16 := cell_b c_aC1_15 D16
    have c_w00_16 := cell_b c_w00_15 D16
    have c_w01_16 := cell_b c_w01_15 D16
    have c_g00_16 := cell_b c_g00_15 D16
    have c_g01_16 := cell_b c_g01_15 D16
    have c_h00_16 := cell_b c_h00_15 D16
    have c_h01_16 := cell_b c_h01_15 D16
    have o_W0_16 := Lib.hid (own_below o_W0_15.out D16)
    have o_G0_16 := Lib.hid (own_below o_G0_15.out D16)
    have o_H0_16 := Lib.hid (own_below o_H0_15.out D16)
    have T16 := Lib.hid (below_trans T15.out D16)
    have z16 : w15.heap.size ≤ w16.heap.size := (by have := hb.size; (try simp at this); omega)
    have ac_aC0_16 := fun o => cell_b c_aC0_16 (below_alloc _ o)
    have bc_aC0_16 := fun o o1 => cell_b (ac_aC0_16 o) (below_alloc _ o1)
    have ac_aC1_16 := fun o => cell_b c_aC1_16 (below_alloc _ o)
    have bc_aC1_16 := fun o o1 => cell_b (ac_aC1_16 o) (below_alloc _ o1)
    have ac_w00_16 := fun o => cell_b c_w00_16 (below_alloc _ o)
    have bc_w00_16 := fun o o1 => cell_b (ac_w00_16 o) (below_alloc _ o1)
    have ac_w01_16 := fun o => cell_b c_w01_16 (below_alloc _ o)
    have bc_w01_16 := fun o o1 => cell_b (ac_w01_16 o) (below_alloc _ o1)
    have ac_g00_16 := fun o => cell_b c_g00_16 (below_alloc _ o)
    have bc_g00_16 := fun o o1 => cell_b (ac_g00_16 o) (below_alloc _ o1)
    have ac_g01_16 := fun o => cell_b c_g01_16 (below_alloc _ o)
    have bc_g01_16 := fun o o1 => cell_b (ac_g01_16 o) (below_alloc _ o1)
    have ac_h00_16 := fun o => cell_b c_h00_16 (below_alloc _ o)
    have bc_h00_16 := fun o o1 => cell_b (ac_h00_16 o) (below_alloc _ o1)
    have ac_h01_16 := fun o => cell_b c_h01_16 (below_alloc _ o)
    have bc_h01_16 := fun o o1 => cell_b (ac_h01_16 o) (below_alloc _ o1)
    clear ac_aC0_15 bc_aC0_15 ac_aC1_15 bc_aC1_15 ac_w00_15 bc_w00_15 ac_w01_15 bc_w01_15 ac_g00_15 bc_g00_15 ac_g01_15 bc_g01_15 ac_h00_15 bc_h00_15 ac_h01_15 bc_h01_15 c_aC0_15 c_aC1_15 c_w00_15 c_w01_15 c_g00_15 c_g01_15 c_h00_15 c_h01_15 o_W0_15 o_G0_15 o_H0_15 hb D16 T15
    go_wp2_with fail
    go_ret
    exact ⟨rfl, T16.out⟩
end Go.Proofs.Ytdlcecijojpmeaa
