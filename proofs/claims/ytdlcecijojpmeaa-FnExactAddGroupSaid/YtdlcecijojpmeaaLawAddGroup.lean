/- The law FnExactAddGroup: the walk. -/
import Derived.Test.YtdlcecijojpmeaaAddGroup
import Derived.Deep.RegionHeld3
namespace Go.Proofs.Ytdlcecijojpmeaa
open Go.RowKit
set_option maxHeartbeats 4000000 in
set_option maxRecDepth 100000 in
theorem W_FnExactAddGroup (w : World) (c : Int) (v : Value) (xs : List Int) (n : Int) (hr : Rd w v xs) (hm : xs.length ≤ 9223372036854775807) :
    Calls Try.prog 7 #[.agg #[.int .i64 c, v], .int .i64 n] w fun e w' => e = .returned (.bool true) ∧ Below w.heap.size w w' := by
  have HR := Lib.hid hr
  obtain ⟨a, cap, rfl, hcap, hnc, hr⟩ := hr
  clear hr hnc
  by_cases hbig : 1048576 < xs.length
  · go_enter Try.func7, Try.ntmps7
    go_wp2_with (go_at_call 11; refine (L_szGroup_no _ _ _ _ _ _ (by omega) (by omega) hm).mono ?_; rintro e w1 ⟨rfl, hb1⟩)
    go_ret
    exact ⟨rfl, below_trans (below_alloc _ _) hb1⟩
  · skip
    have hl1 := addG_len1 c xs n
    have hl2 := addG_len2 c xs n
    go_enter Try.func7, Try.ntmps7
    have T0 := Lib.hid (Below.refl w.heap.size w)
    go_wp2_with fail
    refine (L_szGroup_ok _ _ _ _ _ _ (by omega) (by omega)).mono ?_
    rintro e w1 ⟨rfl, hb⟩
    have D1 : Below w.heap.size w w1 := below_trans (below_alloc _ _) (hb)
    have T1 := Lib.hid (below_trans T0.out D1)
    have z1 : w.heap.size + 1 ≤ w1.heap.size := (by have := hb.size; (try simp at this); omega)
    have c_aC0_1 := cell_b (p := ⟨w.heap.size, 0, none⟩) (v := .int .i64 c) (by simp) hb
    have c_aC1_1 := cell_b (p := ⟨w.heap.size, 1, none⟩) (v := .slice a xs.length cap) (by simp) hb
    have ac_aC0_1 := fun o => cell_b c_aC0_1 (below_alloc _ o)
    have bc_aC0_1 := fun o o1 => cell_b (ac_aC0_1 o) (below_alloc _ o1)
    have ac_aC1_1 := fun o => cell_b c_aC1_1 (below_alloc _ o)
    have bc_aC1_1 := fun o o1 => cell_b (ac_aC1_1 o) (below_alloc _ o1)
    clear hb D1 T0
    go_wp2_with fail
    refine (L_toGroup _ _ _ xs (rd_below HR.out T1.out) (by omega)).mono ?_
    rintro e w2 ⟨aq, cq, rfl, hq, hb⟩
    have D2 : Below w1.heap.size w1 w2 := hb
    have c_aC0_2 := cell_b c_aC0_1 D2
    have c_aC1_2 := cell_b c_aC1_1 D2
    have T2 := Lib.hid (below_trans T1.out D2)
    have z2 : w1.heap.size ≤ w2.heap.size := (by have := hb.size; (try simp at this); omega)
    have o_q_2 := Lib.hid (own_base hq (show w1.heap.size ≤ _ by simp; try omega))
    have lo_q := Lib.hid (own_lo o_q_2.out)
    have hi_q := Lib.hid (own_hi o_q_2.out)
    have ac_aC0_2 := fun o => cell_b c_aC0_2 (below_alloc _ o)
    have bc_aC0_2 := fun o o1 => cell_b (ac_aC0_2 o) (below_alloc _ o1)
    have ac_aC1_2 := fun o => cell_b c_aC1_2 (below_alloc _ o)
    have bc_aC1_2 := fun o o1 => cell_b (ac_aC1_2 o) (below_alloc _ o1)
    clear ac_aC0_1 bc_aC0_1 ac_aC1_1 bc_aC1_1 c_aC0_1 c_aC1_1 hb D2 hq T1
    go_wp2_with fail
    refine (S_AddGroup _ _ _ xs _ (own_rd o_q_2.out) (by omega)).mono ?_
    rintro e w3 ⟨aW0, cW0, aW1, cW1, rfl, hW0, hW1, hneW, hb⟩
    have NE_W := Lib.hid hneW
    have D3 : Below w2.heap.size w2 w3 := hb
    have c_aC0_3 := cell_b c_aC0_2 D3
    have c_aC1_3 := cell_b c_aC1_2 D3
    have o_q_3 := Lib.hid (own_below o_q_2.out D3)
    have T3 := Lib.hid (below_trans T2.out D3)
    have z3 : w2.heap.size ≤ w3.heap.size := (by have := hb.size; (try simp at this); omega)
    have o_W0_3 := Lib.hid (own_base hW0 (show w2.heap.size ≤ _ by simp; try omega))
    have lo_W0 := Lib.hid (own_lo o_W0_3.out)
    have hi_W0 := Lib.hid (own_hi o_W0_3.out)
    have o_W1_3 := Lib.hid (own_base hW1 (show w2.heap.size ≤ _ by simp; try omega))
    have lo_W1 := Lib.hid (own_lo o_W1_3.out)
    have hi_W1 := Lib.hid (own_hi o_W1_3.out)
    have ac_aC0_3 := fun o => cell_b c_aC0_3 (below_alloc _ o)
    have bc_aC0_3 := fun o o1 => cell_b (ac_aC0_3 o) (below_alloc _ o1)
    have ac_aC1_3 := fun o => cell_b c_aC1_3 (below_alloc _ o)
    have bc_aC1_3 := fun o o1 => cell_b (ac_aC1_3 o) (below_alloc _ o1)
    clear ac_aC0_2 bc_aC0_2 ac_aC1_2 bc_aC1_2 c_aC0_2 c_aC1_2 o_q_2 hb D3 hW0 hW1 hneW T2
    clear o_q_3
    go_wp2_with fail
    refine (L_toGroup _ _ _ xs (rd_alloc (rd_below HR.out T3.out) _) (by omega)).mono ?_
    rintro e w4 ⟨ax, cx, rfl, hx, hb⟩
    have D4 : Below w3.heap.size w3 w4 := below_trans (below_alloc _ _) (hb)
    have c_aC0_4 := cell_b c_aC0_3 D4
    have c_aC1_4 := cell_b c_aC1_3 D4
    have o_W0_4 := Lib.hid (own_below o_W0_3.out D4)
    have o_W1_4 := Lib.hid (own_below o_W1_3.out D4)
    have T4 := Lib.hid (below_trans T3.out D4)
    have z4 : w3.heap.size + 1 ≤ w4.heap.size := (by have := hb.size; (try simp at this); omega)
    have c_w00_4 := cell_b (p := ⟨w3.heap.size, 0, none⟩) (v := .int .i64 (addG c xs n).1) (by simp) hb
    have c_w01_4 := cell_b (p := ⟨w3.heap.size, 1, none⟩) (v := .slice aW0 ((addG c xs n).2.1).length cW0) (by simp) hb
    have o_x_4 := Lib.hid (own_base hx (show w3.heap.size + 1 ≤ _ by simp; try omega))
    have lo_x := Lib.hid (own_lo o_x_4.out)
    have hi_x := Lib.hid (own_hi o_x_4.out)
    have ac_aC0_4 := fun o => cell_b c_aC0_4 (below_alloc _ o)
    have bc_aC0_4 := fun o o1 => cell_b (ac_aC0_4 o) (below_alloc _ o1)
    have ac_aC1_4 := fun o => cell_b c_aC1_4 (below_alloc _ o)
    have bc_aC1_4 := fun o o1 => cell_b (ac_aC1_4 o) (below_alloc _ o1)
    have ac_w00_4 := fun o => cell_b c_w00_4 (below_alloc _ o)
    have bc_w00_4 := fun o o1 => cell_b (ac_w00_4 o) (below_alloc _ o1)
    have ac_w01_4 := fun o => cell_b c_w01_4 (below_alloc _ o)
    have bc_w01_4 := fun o o1 => cell_b (ac_w01_4 o) (below_alloc _ o1)
    clear ac_aC0_3 bc_aC0_3 ac_aC1_3 bc_aC1_3 c_aC0_3 c_aC1_3 o_W0_3 o_W1_3 hb D4 hx T3
    go_wp2_with fail
    refine (I_AddGroup _ _ _ xs _ (rd_alloc (own_rd o_x_4.out) _) (by omega)).mono ?_
    rintro e w5 ⟨aG0, cG0, aG1, cG1, rfl, hG0, hG1, hneG, hb⟩
    have NE_G := Lib.hid hneG
    have D5 : Below w4.heap.size w4 w5 := below_trans (below_alloc _ _) (hb)
    have c_aC0_5 := cell_b c_aC0_4 D5
    have c_aC1_5 := cell_b c_aC1_4 D5
    have c_w00_5 := cell_b c_w00_4 D5
    have c_w01_5 := cell_b c_w01_4 D5
    have o_W0_5 := Lib.hid (own_below o_W0_4.out D5)
    have o_W1_5 := Lib.hid (own_below o_W1_4.out D5)
    have o_x_5 := Lib.hid (own_below o_x_4.out D5)
    have T5 := Lib.hid (below_trans T4.out D5)
    have z5 : w4.heap.size + 1 ≤ w5.heap.size := (by have := hb.size; (try simp at this); omega)
    have c_x00_5 := cell_b (p := ⟨w4.heap.size, 0, none⟩) (v := .int .i64 c) (by simp) hb
    have c_x01_5 := cell_b (p := ⟨w4.heap.size, 1, none⟩) (v := .slice ax xs.length cx) (by simp) hb
    have o_G0_5 := Lib.hid (own_base hG0 (show w4.heap.size + 1 ≤ _ by simp; try omega))
    have lo_G0 := Lib.hid (own_lo o_G0_5.out)
    have hi_G0 := Lib.hid (own_hi o_G0_5.out)
    have o_G1_5 := Lib.hid (own_base hG1 (show w4.heap.size + 1 ≤ _ by simp; try omega))
    have lo_G1 := Lib.hid (own_lo o_G1_5.out)
    have hi_G1 := Lib.hid (own_hi o_G1_5.out)
    have ac_aC0_5 := fun o => cell_b c_aC0_5 (below_alloc _ o)
    have bc_aC0_5 := fun o o1 => cell_b (ac_aC0_5 o) (below_alloc _ o1)
    have ac_aC1_5 := fun o => cell_b c_aC1_5 (below_alloc _ o)
    have bc_aC1_5 := fun o o1 => cell_b (ac_aC1_5 o) (below_alloc _ o1)
    have ac_w00_5 := fun o => cell_b c_w00_5 (below_alloc _ o)
    have bc_w00_5 := fun o o1 => cell_b (ac_w00_5 o) (below_alloc _ o1)
    have ac_w01_5 := fun o => cell_b c_w01_5 (below_alloc _ o)
    have bc_w01_5 := fun o o1 => cell_b (ac_w01_5 o) (below_alloc _ o1)
    have ac_x00_5 := fun o => cell_b c_x00_5 (below_alloc _ o)
    have bc_x00_5 := fun o o1 => cell_b (ac_x00_5 o) (below_alloc _ o1)
    have ac_x01_5 := fun o => cell_b c_x01_5 (below_alloc _ o)
    have bc_x01_5 := fun o o1 => cell_b (ac_x01_5 o) (below_alloc _ o1)
    clear ac_aC0_4 bc_aC0_4 ac_aC1_4 bc_aC1_4 ac_w00_4 bc_w00_4 ac_w01_4 bc_w01_4 c_aC0_4 c_aC1_4 c_w00_4 c_w01_4 o_W0_4 o_W1_4 o_x_4 hb D5 hG0 hG1 hneG T4
    go_wp2_with fail
    refine (eqB_true (L_eqGroup _ _ _ _ ((addG c xs n).2.1) ((addG c xs n).2.1) (rd_alloc (own_rd o_G0_5.out) _) (rd_alloc (own_rd o_W0_5.out) _) (by first | omega | (simp; try omega)) (by first | omega | (simp; try omega)))).mono ?_
    rintro e w6 ⟨rfl, hb⟩
    have D6 : Below w5.heap.size w5 w6 := below_trans (below_alloc _ _) (hb)
    have c_aC0_6 := cell_b c_aC0_5 D6
    have c_aC1_6 := cell_b c_aC1_5 D6
    have c_w00_6 := cell_b c_w00_5 D6
    have c_w01_6 := cell_b c_w01_5 D6
    have c_x00_6 := cell_b c_x00_5 D6
    have c_x01_6 := cell_b c_x01_5 D6
    have o_W0_6 := Lib.hid (own_below o_W0_5.out D6)
    have o_W1_6 := Lib.hid (own_below o_W1_5.out D6)
    have o_x_6 := Lib.hid (own_below o_x_5.out D6)
    have o_G0_6 := Lib.hid (own_below o_G0_5.out D6)
    have o_G1_6 := Lib.hid (own_below o_G1_5.out D6)
    have T6 := Lib.hid (below_trans T5.out D6)
    have z6 : w5.heap.size + 1 ≤ w6.heap.size := (by have := hb.size; (try simp at this); omega)
    have c_g00_6 := cell_b (p := ⟨w5.heap.size, 0, none⟩) (v := .int .i64 (addG c xs n).1) (by simp) hb
    have c_g01_6 := cell_b (p := ⟨w5.heap.size, 1, none⟩) (v := .slice aG0 ((addG c xs n).2.1).length cG0) (by simp) hb
    have ac_aC0_6 := fun o => cell_b c_aC0_6 (below_alloc _ o)
    have bc_aC0_6 := fun o o1 => cell_b (ac_aC0_6 o) (below_alloc _ o1)
    have ac_aC1_6 := fun o => cell_b c_aC1_6 (below_alloc _ o)
    have bc_aC1_6 := fun o o1 => cell_b (ac_aC1_6 o) (below_alloc _ o1)
    have ac_w00_6 := fun o => cell_b c_w00_6 (below_alloc _ o)
    have bc_w00_6 := fun o o1 => cell_b (ac_w00_6 o) (below_alloc _ o1)
    have ac_w01_6 := fun o => cell_b c_w01_6 (below_alloc _ o)
    have bc_w01_6 := fun o o1 => cell_b (ac_w01_6 o) (below_alloc _ o1)
    have ac_x00_6 := fun o => cell_b c_x00_6 (below_alloc _ o)
    have bc_x00_6 := fun o o1 => cell_b (ac_x00_6 o) (below_alloc _ o1)
    have ac_x01_6 := fun o => cell_b c_x01_6 (below_alloc _ o)
    have bc_x01_6 := fun o o1 => cell_b (ac_x01_6 o) (below_alloc _ o1)
    have ac_g00_6 := fun o => cell_b c_g00_6 (below_alloc _ o)
    have bc_g00_6 := fun o o1 => cell_b (ac_g00_6 o) (below_alloc _ o1)
    have ac_g01_6 := fun o => cell_b c_g01_6 (below_alloc _ o)
    have bc_g01_6 := fun o o1 => cell_b (ac_g01_6 o) (below_alloc _ o1)
    clear ac_aC0_5 bc_aC0_5 ac_aC1_5 bc_aC1_5 ac_w00_5 bc_w00_5 ac_w01_5 bc_w01_5 ac_x00_5 bc_x00_5 ac_x01_5 bc_x01_5 c_aC0_5 c_aC1_5 c_w00_5 c_w01_5 c_x00_5 c_x01_5 o_W0_5 o_W1_5 o_x_5 o_G0_5 o_G1_5 hb D6 T5
    go_wp2_with fail
    refine (eqB_true (drew_b (L_eqIntS _ _ _ ((addG c xs n).2.2.1) ((addG c xs n).2.2.1) (own_rd o_G1_6.out) (own_rd o_W1_6.out) (by first | omega | (simp; try omega)) (by first | omega | (simp; try omega))))).mono ?_
    rintro e w7 ⟨rfl, hb⟩
    have D7 : Below w6.heap.size w6 w7 := hb
    have c_aC0_7 := cell_b c_aC0_6 D7
    have c_aC1_7 := cell_b c_aC1_6 D7
    have c_w00_7 := cell_b c_w00_6 D7
    have c_w01_7 := cell_b c_w01_6 D7
    have c_x00_7 := cell_b c_x00_6 D7
    have c_x01_7 := cell_b c_x01_6 D7
    have c_g00_7 := cell_b c_g00_6 D7
    have c_g01_7 := cell_b c_g01_6 D7
    have o_W0_7 := Lib.hid (own_below o_W0_6.out D7)
    have o_W1_7 := Lib.hid (own_below o_W1_6.out D7)
    have o_x_7 := Lib.hid (own_below o_x_6.out D7)
    have o_G0_7 := Lib.hid (own_below o_G0_6.out D7)
    have o_G1_7 := Lib.hid (own_below o_G1_6.out D7)
    have T7 := Lib.hid (below_trans T6.out D7)
    have z7 : w6.heap.size ≤ w7.heap.size := (by have := hb.size; (try simp at this); omega)
    have ac_aC0_7 := fun o => cell_b c_aC0_7 (below_alloc _ o)
    have bc_aC0_7 := fun o o1 => cell_b (ac_aC0_7 o) (below_alloc _ o1)
    have ac_aC1_7 := fun o => cell_b c_aC1_7 (below_alloc _ o)
    have bc_aC1_7 := fun o o1 => cell_b (ac_aC1_7 o) (below_alloc _ o1)
    have ac_w00_7 := fun o => cell_b c_w00_7 (below_alloc _ o)
    have bc_w00_7 := fun o o1 => cell_b (ac_w00_7 o) (below_alloc _ o1)
    have ac_w01_7 := fun o => cell_b c_w01_7 (below_alloc _ o)
    have bc_w01_7 := fun o o1 => cell_b (ac_w01_7 o) (below_alloc _ o1)
    have ac_x00_7 := fun o => cell_b c_x00_7 (below_alloc _ o)
    have bc_x00_7 := fun o o1 => cell_b (ac_x00_7 o) (below_alloc _ o1)
    have ac_x01_7 := fun o => cell_b c_x01_7 (below_alloc _ o)
    have bc_x01_7 := fun o o1 => cell_b (ac_x01_7 o) (below_alloc _ o1)
    have ac_g00_7 := fun o => cell_b c_g00_7 (below_alloc _ o)
    have bc_g00_7 := fun o o1 => cell_b (ac_g00_7 o) (below_alloc _ o1)
    have ac_g01_7 := fun o => cell_b c_g01_7 (below_alloc _ o)
    have bc_g01_7 := fun o o1 => cell_b (ac_g01_7 o) (below_alloc _ o1)
    clear ac_aC0_6 bc_aC0_6 ac_aC1_6 bc_aC1_6 ac_w00_6 bc_w00_6 ac_w01_6 bc_w01_6 ac_x00_6 bc_x00_6 ac_x01_6 bc_x01_6 ac_g00_6 bc_g00_6 ac_g01_6 bc_g01_6 c_aC0_6 c_aC1_6 c_w00_6 c_w01_6 c_x00_6 c_x01_6 c_g00_6 c_g01_6 o_W0_6 o_W1_6 o_x_6 o_G0_6 o_G1_6 hb D7 T6
    go_wp2_with fail
    go_region_held3 (fun w' => w'.cell? ⟨w4.heap.size, 0, none⟩ = some (.int .i64 c) ∧ w'.cell? ⟨w4.heap.size, 1, none⟩ = some (.slice ax xs.length cx) ∧ w'.cell? ⟨w.heap.size, 0, none⟩ = some (.int .i64 c) ∧ w'.cell? ⟨w.heap.size, 1, none⟩ = some (.slice a xs.length cap)) (first | exact ⟨c_x00_7, c_x01_7, c_aC0_7, c_aC1_7⟩ | exact ⟨c_x00_8, c_x01_8, c_aC0_8, c_aC1_8⟩ | exact ⟨c_x00_9, c_x01_9, c_aC0_9, c_aC1_9⟩)
      (first | (go_at_call 13; refine (L_toGroup _ _ _ xs (rd_drew (rd_below HR.out T7.out)) (by first | omega | (simp; try omega))).mono ?_; rintro e w8 ⟨ay, cy, rfl, hy, hb⟩; have D8 : Below w7.heap.size w7 w8 := below_trans (drew_below _) (hb); have c_aC0_8 := cell_b c_aC0_7 D8; have c_aC1_8 := cell_b c_aC1_7 D8; have c_w00_8 := cell_b c_w00_7 D8; have c_w01_8 := cell_b c_w01_7 D8; have c_x00_8 := cell_b c_x00_7 D8; have c_x01_8 := cell_b c_x01_7 D8; have c_g00_8 := cell_b c_g00_7 D8; have c_g01_8 := cell_b c_g01_7 D8; have o_W0_8 := Lib.hid (own_below o_W0_7.out D8); have o_W1_8 := Lib.hid (own_below o_W1_7.out D8); have o_x_8 := Lib.hid (own_below o_x_7.out D8); have o_G0_8 := Lib.hid (own_below o_G0_7.out D8); have o_G1_8 := Lib.hid (own_below o_G1_7.out D8); have T8 := Lib.hid (below_trans T7.out D8); have z8 : w7.heap.size ≤ w8.heap.size := (by have := hb.size; (try simp at this); omega); have o_y_8 := Lib.hid (own_base hy (show w7.heap.size ≤ _ by simp; try omega)); have lo_y := Lib.hid (own_lo o_y_8.out); have hi_y := Lib.hid (own_hi o_y_8.out); have ac_aC0_8 := fun o => cell_b c_aC0_8 (below_alloc _ o); have bc_aC0_8 := fun o o1 => cell_b (ac_aC0_8 o) (below_alloc _ o1); have ac_aC1_8 := fun o => cell_b c_aC1_8 (below_alloc _ o); have bc_aC1_8 := fun o o1 => cell_b (ac_aC1_8 o) (below_alloc _ o1); have ac_w00_8 := fun o => cell_b c_w00_8 (below_alloc _ o); have bc_w00_8 := fun o o1 => cell_b (ac_w00_8 o) (below_alloc _ o1); have ac_w01_8 := fun o => cell_b c_w01_8 (below_alloc _ o); have bc_w01_8 := fun o o1 => cell_b (ac_w01_8 o) (below_alloc _ o1); have ac_x00_8 := fun o => cell_b c_x00_8 (below_alloc _ o); have bc_x00_8 := fun o o1 => cell_b (ac_x00_8 o) (below_alloc _ o1); have ac_x01_8 := fun o => cell_b c_x01_8 (below_alloc _ o); have bc_x01_8 := fun o o1 => cell_b (ac_x01_8 o) (below_alloc _ o1); have ac_g00_8 := fun o => cell_b c_g00_8 (below_alloc _ o); have bc_g00_8 := fun o o1 => cell_b (ac_g00_8 o) (below_alloc _ o1); have ac_g01_8 := fun o => cell_b c_g01_8 (below_alloc _ o); have bc_g01_8 := fun o o1 => cell_b (ac_g01_8 o) (below_alloc _ o1); clear ac_aC0_7 bc_aC0_7 ac_aC1_7 bc_aC1_7 ac_w00_7 bc_w00_7 ac_w01_7 bc_w01_7 ac_x00_7 bc_x00_7 ac_x01_7 bc_x01_7 ac_g00_7 bc_g00_7 ac_g01_7 bc_g01_7 c_aC0_7 c_aC1_7 c_w00_7 c_w01_7 c_x00_7 c_x01_7 c_g00_7 c_g01_7 o_W0_7 o_W1_7 o_x_7 o_G0_7 o_G1_7 hb D8 hy T7) | (go_at_call 15; refine (eqB_true (L_eqGroup _ _ _ _ xs xs (own_rd o_x_8.out) (own_rd o_y_8.out) (by first | omega | (simp; try omega)) (by first | omega | (simp; try omega)))).mono ?_; rintro e w9 ⟨rfl, hb⟩; have D9 : Below w8.heap.size w8 w9 := hb; have c_aC0_9 := cell_b c_aC0_8 D9; have c_aC1_9 := cell_b c_aC1_8 D9; have c_w00_9 := cell_b c_w00_8 D9; have c_w01_9 := cell_b c_w01_8 D9; have c_x00_9 := cell_b c_x00_8 D9; have c_x01_9 := cell_b c_x01_8 D9; have c_g00_9 := cell_b c_g00_8 D9; have c_g01_9 := cell_b c_g01_8 D9; have o_W0_9 := Lib.hid (own_below o_W0_8.out D9); have o_W1_9 := Lib.hid (own_below o_W1_8.out D9); have o_x_9 := Lib.hid (own_below o_x_8.out D9); have o_G0_9 := Lib.hid (own_below o_G0_8.out D9); have o_G1_9 := Lib.hid (own_below o_G1_8.out D9); have o_y_9 := Lib.hid (own_below o_y_8.out D9); have T9 := Lib.hid (below_trans T8.out D9); have z9 : w8.heap.size ≤ w9.heap.size := (by have := hb.size; (try simp at this); omega); have ac_aC0_9 := fun o => cell_b c_aC0_9 (below_alloc _ o); have bc_aC0_9 := fun o o1 => cell_b (ac_aC0_9 o) (below_alloc _ o1); have ac_aC1_9 := fun o => cell_b c_aC1_9 (below_alloc _ o); have bc_aC1_9 := fun o o1 => cell_b (ac_aC1_9 o) (below_alloc _ o1); have ac_w00_9 := fun o => cell_b c_w00_9 (below_alloc _ o); have bc_w00_9 := fun o o1 => cell_b (ac_w00_9 o) (below_alloc _ o1); have ac_w01_9 := fun o => cell_b c_w01_9 (below_alloc _ o); have bc_w01_9 := fun o o1 => cell_b (ac_w01_9 o) (below_alloc _ o1); have ac_x00_9 := fun o => cell_b c_x00_9 (below_alloc _ o); have bc_x00_9 := fun o o1 => cell_b (ac_x00_9 o) (below_alloc _ o1); have ac_x01_9 := fun o => cell_b c_x01_9 (below_alloc _ o); have bc_x01_9 := fun o o1 => cell_b (ac_x01_9 o) (below_alloc _ o1); have ac_g00_9 := fun o => cell_b c_g00_9 (below_alloc _ o); have bc_g00_9 := fun o o1 => cell_b (ac_g00_9 o) (below_alloc _ o1); have ac_g01_9 := fun o => cell_b c_g01_9 (below_alloc _ o); have bc_g01_9 := fun o o1 => cell_b (ac_g01_9 o) (below_alloc _ o1); clear ac_aC0_8 bc_aC0_8 ac_aC1_8 bc_aC1_8 ac_w00_8 bc_w00_8 ac_w01_8 bc_w01_8 ac_x00_8 bc_x00_8 ac_x01_8 bc_x01_8 ac_g00_8 bc_g00_8 ac_g01_8 bc_g01_8 c_aC0_8 c_aC1_8 c_w00_8 c_w01_8 c_x00_8 c_x01_8 c_g00_8 c_g01_8 o_W0_8 o_W1_8 o_x_8 o_G0_8 o_G1_8 o_y_8 hb D9 T8))
    clear o_y_9
    go_wp2_with fail
    refine (L_markGroup _ _ _ _ xs _ o_x_9.out (by first | omega | (simp; try omega)) (by first | omega | (simp; try omega)) (by first | omega | (simp; try omega))).mono ?_
    rintro e w10 ⟨rfl, ho, hg⟩
    have c_aC0_10 := cell_gr c_aC0_9 hg (fun g h => by have h1 := lo_x.out g h; have h2 := hi_x.out g h; show w.heap.size ≠ g; omega)
    have c_aC1_10 := cell_gr c_aC1_9 hg (fun g h => by have h1 := lo_x.out g h; have h2 := hi_x.out g h; show w.heap.size ≠ g; omega)
    have c_w00_10 := cell_gr c_w00_9 hg (fun g h => by have h1 := lo_x.out g h; have h2 := hi_x.out g h; show w3.heap.size ≠ g; omega)
    have c_w01_10 := cell_gr c_w01_9 hg (fun g h => by have h1 := lo_x.out g h; have h2 := hi_x.out g h; show w3.heap.size ≠ g; omega)
    have c_x00_10 := cell_gr c_x00_9 hg (fun g h => by have h1 := lo_x.out g h; have h2 := hi_x.out g h; show w4.heap.size ≠ g; omega)
    have c_x01_10 := cell_gr c_x01_9 hg (fun g h => by have h1 := lo_x.out g h; have h2 := hi_x.out g h; show w4.heap.size ≠ g; omega)
    have c_g00_10 := cell_gr c_g00_9 hg (fun g h => by have h1 := lo_x.out g h; have h2 := hi_x.out g h; show w5.heap.size ≠ g; omega)
    have c_g01_10 := cell_gr c_g01_9 hg (fun g h => by have h1 := lo_x.out g h; have h2 := hi_x.out g h; show w5.heap.size ≠ g; omega)
    have o_W0_10 := Lib.hid (own_gr o_W0_9.out hg (fun g g' h h' => by have h1 := lo_x.out g h; have h2 := hi_x.out g h; have h3 := lo_W0.out g' h'; have h4 := hi_W0.out g' h'; omega))
    have o_W1_10 := Lib.hid (own_gr o_W1_9.out hg (fun g g' h h' => by have h1 := lo_x.out g h; have h2 := hi_x.out g h; have h3 := lo_W1.out g' h'; have h4 := hi_W1.out g' h'; omega))
    have o_G0_10 := Lib.hid (own_gr o_G0_9.out hg (fun g g' h h' => by have h1 := lo_x.out g h; have h2 := hi_x.out g h; have h3 := lo_G0.out g' h'; have h4 := hi_G0.out g' h'; omega))
    have o_G1_10 := Lib.hid (own_gr o_G1_9.out hg (fun g g' h h' => by have h1 := lo_x.out g h; have h2 := hi_x.out g h; have h3 := lo_G1.out g' h'; have h4 := hi_G1.out g' h'; omega))
    have o_x_10 := Lib.hid ho
    have z10 := hg.size
    have T10 := Lib.hid (below_gr T9.out (by omega) hg (fun g h => by have h1 := lo_x.out g h; omega))
    have ac_aC0_10 := fun o => cell_b c_aC0_10 (below_alloc _ o)
    have bc_aC0_10 := fun o o1 => cell_b (ac_aC0_10 o) (below_alloc _ o1)
    have ac_aC1_10 := fun o => cell_b c_aC1_10 (below_alloc _ o)
    have bc_aC1_10 := fun o o1 => cell_b (ac_aC1_10 o) (below_alloc _ o1)
    have ac_w00_10 := fun o => cell_b c_w00_10 (below_alloc _ o)
    have bc_w00_10 := fun o o1 => cell_b (ac_w00_10 o) (below_alloc _ o1)
    have ac_w01_10 := fun o => cell_b c_w01_10 (below_alloc _ o)
    have bc_w01_10 := fun o o1 => cell_b (ac_w01_10 o) (below_alloc _ o1)
    have ac_x00_10 := fun o => cell_b c_x00_10 (below_alloc _ o)
    have bc_x00_10 := fun o o1 => cell_b (ac_x00_10 o) (below_alloc _ o1)
    have ac_x01_10 := fun o => cell_b c_x01_10 (below_alloc _ o)
    have bc_x01_10 := fun o o1 => cell_b (ac_x01_10 o) (below_alloc _ o1)
    have ac_g00_10 := fun o => cell_b c_g00_10 (below_alloc _ o)
    have bc_g00_10 := fun o o1 => cell_b (ac_g00_10 o) (below_alloc _ o1)
    have ac_g01_10 := fun o => cell_b c_g01_10 (below_alloc _ o)
    have bc_g01_10 := fun o o1 => cell_b (ac_g01_10 o) (below_alloc _ o1)
    clear ho hg T9 o_x_9 ac_aC0_9 bc_aC0_9 ac_aC1_9 bc_aC1_9 ac_w00_9 bc_w00_9 ac_w01_9 bc_w01_9 ac_x00_9 bc_x00_9 ac_x01_9 bc_x01_9 ac_g00_9 bc_g00_9 ac_g01_9 bc_g01_9 c_aC0_9 c_aC1_9 c_w00_9 c_w01_9 c_x00_9 c_x01_9 c_g00_9 c_g01_9 o_W0_9 o_W1_9 o_G0_9 o_G1_9
    go_wp2_with fail
    refine (eqB_true (L_eqGroup _ _ _ _ ((addG c xs n).2.1) ((addG c xs n).2.1) (own_rd o_G0_10.out) (own_rd o_W0_10.out) (by first | omega | (simp; try omega)) (by first | omega | (simp; try omega)))).mono ?_
    rintro e w11 ⟨rfl, hb⟩
    have D11 : Below w10.heap.size w10 w11 := hb
    have c_aC0_11 := cell_b c_aC0_10 D11
    have c_aC1_11 := cell_b c_aC1_10 D11
    have c_w00_11 := cell_b c_w00_10 D11
    have c_w01_11 := cell_b c_w01_10 D11
    have c_x00_11 := cell_b c_x00_10 D11
    have c_x01_11 := cell_b c_x01_10 D11
    have c_g00_11 := cell_b c_g00_10 D11
    have c_g01_11 := cell_b c_g01_10 D11
    have o_W0_11 := Lib.hid (own_below o_W0_10.out D11)
    have o_W1_11 := Lib.hid (own_below o_W1_10.out D11)
    have o_x_11 := Lib.hid (own_below o_x_10.out D11)
    have o_G0_11 := Lib.hid (own_below o_G0_10.out D11)
    have o_G1_11 := Lib.hid (own_below o_G1_10.out D11)
    have T11 := Lib.hid (below_trans T10.out D11)
    have z11 : w10.heap.size ≤ w11.heap.size := (by have := hb.size; (try simp at this); omega)
    have ac_aC0_11 := fun o => cell_b c_aC0_11 (below_alloc _ o)
    have bc_aC0_11 := fun o o1 => cell_b (ac_aC0_11 o) (below_alloc _ o1)
    have ac_aC1_11 := fun o => cell_b c_aC1_11 (below_alloc _ o)
    have bc_aC1_11 := fun o o1 => cell_b (ac_aC1_11 o) (below_alloc _ o1)
    have ac_w00_11 := fun o => cell_b c_w00_11 (below_alloc _ o)
    have bc_w00_11 := fun o o1 => cell_b (ac_w00_11 o) (below_alloc _ o1)
    have ac_w01_11 := fun o => cell_b c_w01_11 (below_alloc _ o)
    have bc_w01_11 := fun o o1 => cell_b (ac_w01_11 o) (below_alloc _ o1)
    have ac_x00_11 := fun o => cell_b c_x00_11 (below_alloc _ o)
    have bc_x00_11 := fun o o1 => cell_b (ac_x00_11 o) (below_alloc _ o1)
    have ac_x01_11 := fun o => cell_b c_x01_11 (below_alloc _ o)
    have bc_x01_11 := fun o o1 => cell_b (ac_x01_11 o) (below_alloc _ o1)
    have ac_g00_11 := fun o => cell_b c_g00_11 (below_alloc _ o)
    have bc_g00_11 := fun o o1 => cell_b (ac_g00_11 o) (below_alloc _ o1)
    have ac_g01_11 := fun o => cell_b c_g01_11 (below_alloc _ o)
    have bc_g01_11 := fun o o1 => cell_b (ac_g01_11 o) (below_alloc _ o1)
    clear ac_aC0_10 bc_aC0_10 ac_aC1_10 bc_aC1_10 ac_w00_10 bc_w00_10 ac_w01_10 bc_w01_10 ac_x00_10 bc_x00_10 ac_x01_10 bc_x01_10 ac_g00_10 bc_g00_10 ac_g01_10 bc_g01_10 c_aC0_10 c_aC1_10 c_w00_10 c_w01_10 c_x00_10 c_x01_10 c_g00_10 c_g01_10 o_W0_10 o_W1_10 o_x_10 o_G0_10 o_G1_10 hb D11 T10
    go_wp2_with fail
    refine (eqB_true (drew_b (L_eqIntS _ _ _ ((addG c xs n).2.2.1) ((addG c xs n).2.2.1) (own_rd o_G1_11.out) (own_rd o_W1_11.out) (by first | omega | (simp; try omega)) (by first | omega | (simp; try omega))))).mono ?_
    rintro e w12 ⟨rfl, hb⟩
    have D12 : Below w11.heap.size w11 w12 := hb
    have c_aC0_12 := cell_b c_aC0_11 D12
    have c_aC1_12 := cell_b c_aC1_11 D12
    have c_w00_12 := cell_b c_w00_11 D12
    have c_w01_12 := cell_b c_w01_11 D12
    have c_x00_12 := cell_b c_x00_11 D12
    have c_x01_12 := cell_b c_x01_11 D12
    have c_g00_12 := cell_b c_g00_11 D12
    have c_g01_12 := cell_b c_g01_11 D12
    have o_W0_12 := Lib.hid (own_below o_W0_11.out D12)
    have o_W1_12 := Lib.hid (own_below o_W1_11.out D12)
    have o_x_12 := Lib.hid (own_below o_x_11.out D12)
    have o_G0_12 := Lib.hid (own_below o_G0_11.out D12)
    have o_G1_12 := Lib.hid (own_below o_G1_11.out D12)
    have T12 := Lib.hid (below_trans T11.out D12)
    have z12 : w11.heap.size ≤ w12.heap.size := (by have := hb.size; (try simp at this); omega)
    have ac_aC0_12 := fun o => cell_b c_aC0_12 (below_alloc _ o)
    have bc_aC0_12 := fun o o1 => cell_b (ac_aC0_12 o) (below_alloc _ o1)
    have ac_aC1_12 := fun o => cell_b c_aC1_12 (below_alloc _ o)
    have bc_aC1_12 := fun o o1 => cell_b (ac_aC1_12 o) (below_alloc _ o1)
    have ac_w00_12 := fun o => cell_b c_w00_12 (below_alloc _ o)
    have bc_w00_12 := fun o o1 => cell_b (ac_w00_12 o) (below_alloc _ o1)
    have ac_w01_12 := fun o => cell_b c_w01_12 (below_alloc _ o)
    have bc_w01_12 := fun o o1 => cell_b (ac_w01_12 o) (below_alloc _ o1)
    have ac_x00_12 := fun o => cell_b c_x00_12 (below_alloc _ o)
    have bc_x00_12 := fun o o1 => cell_b (ac_x00_12 o) (below_alloc _ o1)
    have ac_x01_12 := fun o => cell_b c_x01_12 (below_alloc _ o)
    have bc_x01_12 := fun o o1 => cell_b (ac_x01_12 o) (below_alloc _ o1)
    have ac_g00_12 := fun o => cell_b c_g00_12 (below_alloc _ o)
    have bc_g00_12 := fun o o1 => cell_b (ac_g00_12 o) (below_alloc _ o1)
    have ac_g01_12 := fun o => cell_b c_g01_12 (below_alloc _ o)
    have bc_g01_12 := fun o o1 => cell_b (ac_g01_12 o) (below_alloc _ o1)
    clear ac_aC0_11 bc_aC0_11 ac_aC1_11 bc_aC1_11 ac_w00_11 bc_w00_11 ac_w01_11 bc_w01_11 ac_x00_11 bc_x00_11 ac_x01_11 bc_x01_11 ac_g00_11 bc_g00_11 ac_g01_11 bc_g01_11 c_aC0_11 c_aC1_11 c_w00_11 c_w01_11 c_x00_11 c_x01_11 c_g00_11 c_g01_11 o_W0_11 o_W1_11 o_x_11 o_G0_11 o_G1_11 hb D12 T11
    clear o_x_12 c_x00_12 c_x01_12 ac_x00_12 bc_x00_12 ac_x01_12 bc_x01_12
    go_wp2_with fail
    refine (L_markGroup _ _ _ _ ((addG c xs n).2.1) _ o_G0_12.out (by first | omega | (simp; try omega)) (by first | omega | (simp; try omega)) (by first | omega | (simp; try omega))).mono ?_
    rintro e w13 ⟨rfl, ho, hg⟩
    have c_aC0_13 := cell_gr c_aC0_12 hg (fun g h => by have h1 := lo_G0.out g h; have h2 := hi_G0.out g h; show w.heap.size ≠ g; omega)
    have c_aC1_13 := cell_gr c_aC1_12 hg (fun g h => by have h1 := lo_G0.out g h; have h2 := hi_G0.out g h; show w.heap.size ≠ g; omega)
    have c_w00_13 := cell_gr c_w00_12 hg (fun g h => by have h1 := lo_G0.out g h; have h2 := hi_G0.out g h; show w3.heap.size ≠ g; omega)
    have c_w01_13 := cell_gr c_w01_12 hg (fun g h => by have h1 := lo_G0.out g h; have h2 := hi_G0.out g h; show w3.heap.size ≠ g; omega)
    have c_g00_13 := cell_gr c_g00_12 hg (fun g h => by have h1 := lo_G0.out g h; have h2 := hi_G0.out g h; show w5.heap.size ≠ g; omega)
    have c_g01_13 := cell_gr c_g01_12 hg (fun g h => by have h1 := lo_G0.out g h; have h2 := hi_G0.out g h; show w5.heap.size ≠ g; omega)
    have o_W0_13 := Lib.hid (own_gr o_W0_12.out hg (fun g g' h h' => by have h1 := lo_G0.out g h; have h2 := hi_G0.out g h; have h3 := lo_W0.out g' h'; have h4 := hi_W0.out g' h'; omega))
    have o_W1_13 := Lib.hid (own_gr o_W1_12.out hg (fun g g' h h' => by have h1 := lo_G0.out g h; have h2 := hi_G0.out g h; have h3 := lo_W1.out g' h'; have h4 := hi_W1.out g' h'; omega))
    have o_G1_13 := Lib.hid (own_gr o_G1_12.out hg (fun g g' h h' => NE_G.out g g' h h'))
    have o_G0_13 := Lib.hid ho
    have z13 := hg.size
    have T13 := Lib.hid (below_gr T12.out (by omega) hg (fun g h => by have h1 := lo_G0.out g h; omega))
    have ac_aC0_13 := fun o => cell_b c_aC0_13 (below_alloc _ o)
    have bc_aC0_13 := fun o o1 => cell_b (ac_aC0_13 o) (below_alloc _ o1)
    have ac_aC1_13 := fun o => cell_b c_aC1_13 (below_alloc _ o)
    have bc_aC1_13 := fun o o1 => cell_b (ac_aC1_13 o) (below_alloc _ o1)
    have ac_w00_13 := fun o => cell_b c_w00_13 (below_alloc _ o)
    have bc_w00_13 := fun o o1 => cell_b (ac_w00_13 o) (below_alloc _ o1)
    have ac_w01_13 := fun o => cell_b c_w01_13 (below_alloc _ o)
    have bc_w01_13 := fun o o1 => cell_b (ac_w01_13 o) (below_alloc _ o1)
    have ac_g00_13 := fun o => cell_b c_g00_13 (below_alloc _ o)
    have bc_g00_13 := fun o o1 => cell_b (ac_g00_13 o) (below_alloc _ o1)
    have ac_g01_13 := fun o => cell_b c_g01_13 (below_alloc _ o)
    have bc_g01_13 := fun o o1 => cell_b (ac_g01_13 o) (below_alloc _ o1)
    clear ho hg T12 o_G0_12 ac_aC0_12 bc_aC0_12 ac_aC1_12 bc_aC1_12 ac_w00_12 bc_w00_12 ac_w01_12 bc_w01_12 ac_g00_12 bc_g00_12 ac_g01_12 bc_g01_12 c_aC0_12 c_aC1_12 c_w00_12 c_w01_12 c_g00_12 c_g01_12 o_W0_12 o_W1_12 o_G1_12
    go_wp2_with fail
    refine (L_markIntS _ _ _ ((addG c xs n).2.2.1) _ o_G1_13.out (by first | omega | (simp; try omega)) (by first | omega | (simp; try omega)) (by first | omega | (simp; try omega))).mono ?_
    rintro e w14 ⟨rfl, ho, hg⟩
    have c_aC0_14 := cell_gr c_aC0_13 hg (fun g h => by have h1 := lo_G1.out g h; have h2 := hi_G1.out g h; show w.heap.size ≠ g; omega)
    have c_aC1_14 := cell_gr c_aC1_13 hg (fun g h => by have h1 := lo_G1.out g h; have h2 := hi_G1.out g h; show w.heap.size ≠ g; omega)
    have c_w00_14 := cell_gr c_w00_13 hg (fun g h => by have h1 := lo_G1.out g h; have h2 := hi_G1.out g h; show w3.heap.size ≠ g; omega)
    have c_w01_14 := cell_gr c_w01_13 hg (fun g h => by have h1 := lo_G1.out g h; have h2 := hi_G1.out g h; show w3.heap.size ≠ g; omega)
    have c_g00_14 := cell_gr c_g00_13 hg (fun g h => by have h1 := lo_G1.out g h; have h2 := hi_G1.out g h; show w5.heap.size ≠ g; omega)
    have c_g01_14 := cell_gr c_g01_13 hg (fun g h => by have h1 := lo_G1.out g h; have h2 := hi_G1.out g h; show w5.heap.size ≠ g; omega)
    have o_W0_14 := Lib.hid (own_gr o_W0_13.out hg (fun g g' h h' => by have h1 := lo_G1.out g h; have h2 := hi_G1.out g h; have h3 := lo_W0.out g' h'; have h4 := hi_W0.out g' h'; omega))
    have o_W1_14 := Lib.hid (own_gr o_W1_13.out hg (fun g g' h h' => by have h1 := lo_G1.out g h; have h2 := hi_G1.out g h; have h3 := lo_W1.out g' h'; have h4 := hi_W1.out g' h'; omega))
    have o_G0_14 := Lib.hid (own_gr o_G0_13.out hg (fun g g' h h' => ne_symm NE_G.out g g' h h'))
    have o_G1_14 := Lib.hid ho
    have z14 := hg.size
    have T14 := Lib.hid (below_gr T13.out (by omega) hg (fun g h => by have h1 := lo_G1.out g h; omega))
    have ac_aC0_14 := fun o => cell_b c_aC0_14 (below_alloc _ o)
    have bc_aC0_14 := fun o o1 => cell_b (ac_aC0_14 o) (below_alloc _ o1)
    have ac_aC1_14 := fun o => cell_b c_aC1_14 (below_alloc _ o)
    have bc_aC1_14 := fun o o1 => cell_b (ac_aC1_14 o) (below_alloc _ o1)
    have ac_w00_14 := fun o => cell_b c_w00_14 (below_alloc _ o)
    have bc_w00_14 := fun o o1 => cell_b (ac_w00_14 o) (below_alloc _ o1)
    have ac_w01_14 := fun o => cell_b c_w01_14 (below_alloc _ o)
    have bc_w01_14 := fun o o1 => cell_b (ac_w01_14 o) (below_alloc _ o1)
    have ac_g00_14 := fun o => cell_b c_g00_14 (below_alloc _ o)
    have bc_g00_14 := fun o o1 => cell_b (ac_g00_14 o) (below_alloc _ o1)
    have ac_g01_14 := fun o => cell_b c_g01_14 (below_alloc _ o)
    have bc_g01_14 := fun o o1 => cell_b (ac_g01_14 o) (below_alloc _ o1)
    clear ho hg T13 o_G1_13 ac_aC0_13 bc_aC0_13 ac_aC1_13 bc_aC1_13 ac_w00_13 bc_w00_13 ac_w01_13 bc_w01_13 ac_g00_13 bc_g00_13 ac_g01_13 bc_g01_13 c_aC0_13 c_aC1_13 c_w00_13 c_w01_13 c_g00_13 c_g01_13 o_W0_13 o_W1_13 o_G0_13
    go_wp2_with fail
    refine (L_heldGroup _ _ _ ((addG c xs n).2.1).length _ (own_rd o_G0_14.out) (by first | omega | (simp; try omega)) (by first | omega | (simp; try omega)) (by first | omega | (simp; try omega))).mono ?_
    rintro e w15 ⟨rfl, hb⟩
    have D15 : Below w14.heap.size w14 w15 := hb
    have c_aC0_15 := cell_b c_aC0_14 D15
    have c_aC1_15 := cell_b c_aC1_14 D15
    have c_w00_15 := cell_b c_w00_14 D15
    have c_w01_15 := cell_b c_w01_14 D15
    have c_g00_15 := cell_b c_g00_14 D15
    have c_g01_15 := cell_b c_g01_14 D15
    have o_W0_15 := Lib.hid (own_below o_W0_14.out D15)
    have o_W1_15 := Lib.hid (own_below o_W1_14.out D15)
    have o_G0_15 := Lib.hid (own_below o_G0_14.out D15)
    have o_G1_15 := Lib.hid (own_below o_G1_14.out D15)
    have T15 := Lib.hid (below_trans T14.out D15)
    have z15 : w14.heap.size ≤ w15.heap.size := (by have := hb.size; (try simp at this); omega)
    have ac_aC0_15 := fun o => cell_b c_aC0_15 (below_alloc _ o)
    have bc_aC0_15 := fun o o1 => cell_b (ac_aC0_15 o) (below_alloc _ o1)
    have ac_aC1_15 := fun o => cell_b c_aC1_15 (below_alloc _ o)
    have bc_aC1_15 := fun o o1 => cell_b (ac_aC1_15 o) (below_alloc _ o1)
    have ac_w00_15 := fun o => cell_b c_w00_15 (below_alloc _ o)
    have bc_w00_15 := fun o o1 => cell_b (ac_w00_15 o) (below_alloc _ o1)
    have ac_w01_15 := fun o => cell_b c_w01_15 (below_alloc _ o)
    have bc_w01_15 := fun o o1 => cell_b (ac_w01_15 o) (below_alloc _ o1)
    have ac_g00_15 := fun o => cell_b c_g00_15 (below_alloc _ o)
    have bc_g00_15 := fun o o1 => cell_b (ac_g00_15 o) (below_alloc _ o1)
    have ac_g01_15 := fun o => cell_b c_g01_15 (below_alloc _ o)
    have bc_g01_15 := fun o o1 => cell_b (ac_g01_15 o) (below_alloc _ o1)
    clear ac_aC0_14 bc_aC0_14 ac_aC1_14 bc_aC1_14 ac_w00_14 bc_w00_14 ac_w01_14 bc_w01_14 ac_g00_14 bc_g00_14 ac_g01_14 bc_g01_14 c_aC0_14 c_aC1_14 c_w00_14 c_w01_14 c_g00_14 c_g01_14 o_W0_14 o_W1_14 o_G0_14 o_G1_14 hb D15 T14
    go_wp2_with fail
    refine (same_b (L_heldIntS _ _ ((addG c xs n).2.2.1).length _ (own_rd o_G1_15.out) (by first | omega | (simp; try omega)) (by first | omega | (simp; try omega)) (by first | omega | (simp; try omega)))).mono ?_
    rintro e w16 ⟨rfl, hb⟩
    have D16 : Below w15.heap.size w15 w16 := hb
    have c_aC0_16 := cell_b c_aC0_15 D16
    have c_aC1_16 := cell_b c_aC1_15 D16
    have c_w00_16 := cell_b c_w00_15 D16
    have c_w01_16 := cell_b c_w01_15 D16
    have c_g00_16 := cell_b c_g00_15 D16
    have c_g01_16 := cell_b c_g01_15 D16
    have o_W0_16 := Lib.hid (own_below o_W0_15.out D16)
    have o_W1_16 := Lib.hid (own_below o_W1_15.out D16)
    have o_G0_16 := Lib.hid (own_below o_G0_15.out D16)
    have o_G1_16 := Lib.hid (own_below o_G1_15.out D16)
    have T16 := Lib.hid (below_trans T15.out D16)
    have z16 : w15.heap.size ≤ w16.heap.size := (by have := hb.size; (try simp at this); omega)
    have ac_aC0_16 := fun o => cell_b c_aC0_16 (below_alloc _ o)
    have bc_aC0_16 := fun o o1 => cell_b (ac_aC0_16 o) (below_alloc _ o1)
    have ac_aC1_16 := fun o => cell_b c_aC1_16 (below_alloc _ o)
    have bc_aC1_16 := fun o o1 => cell_b (ac_aC1_16 o) (below_alloc _ o1)
    have ac_w00_16 := fun o => cell_b c_w00_16 (below_alloc _ o)
    have bc_w00_16 := fun o o1 => cell_b (ac_w00_16 o) (below_alloc _ o1)
    have ac_w01_16 := fun o => cell_b c_w01_16 (below_alloc _ o)
    have bc_w01_16 := fun o o1 => cell_b (ac_w01_16 o) (below_alloc _ o1)
    have ac_g00_16 := fun o => cell_b c_g00_16 (below_alloc _ o)
    have bc_g00_16 := fun o o1 => cell_b (ac_g00_16 o) (below_alloc _ o1)
    have ac_g01_16 := fun o => cell_b c_g01_16 (below_alloc _ o)
    have bc_g01_16 := fun o o1 => cell_b (ac_g01_16 o) (below_alloc _ o1)
    clear ac_aC0_15 bc_aC0_15 ac_aC1_15 bc_aC1_15 ac_w00_15 bc_w00_15 ac_w01_15 bc_w01_15 ac_g00_15 bc_g00_15 ac_g01_15 bc_g01_15 c_aC0_15 c_aC1_15 c_w00_15 c_w01_15 c_g00_15 c_g01_15 o_W0_15 o_W1_15 o_G0_15 o_G1_15 hb D16 T15
    go_wp2_with fail
    refine (L_toGroup _ _ _ xs (rd_below HR.out T16.out) (by omega)).mono ?_
    rintro e w17 ⟨az, cz, rfl, hz, hb⟩
    have D17 : Below w16.heap.size w16 w17 := hb
    have c_aC0_17 := cell_b c_aC0_16 D17
    have c_aC1_17 := cell_b c_aC1_16 D17
    have c_w00_17 := cell_b c_w00_16 D17
    have c_w01_17 := cell_b c_w01_16 D17
    have c_g00_17 := cell_b c_g00_16 D17
    have c_g01_17 := cell_b c_g01_16 D17
    have o_W0_17 := Lib.hid (own_below o_W0_16.out D17)
    have o_W1_17 := Lib.hid (own_below o_W1_16.out D17)
    have o_G0_17 := Lib.hid (own_below o_G0_16.out D17)
    have o_G1_17 := Lib.hid (own_below o_G1_16.out D17)
    have T17 := Lib.hid (below_trans T16.out D17)
    have z17 : w16.heap.size ≤ w17.heap.size := (by have := hb.size; (try simp at this); omega)
    have o_z_17 := Lib.hid (own_base hz (show w16.heap.size ≤ _ by simp; try omega))
    have lo_z := Lib.hid (own_lo o_z_17.out)
    have hi_z := Lib.hid (own_hi o_z_17.out)
    have ac_aC0_17 := fun o => cell_b c_aC0_17 (below_alloc _ o)
    have bc_aC0_17 := fun o o1 => cell_b (ac_aC0_17 o) (below_alloc _ o1)
    have ac_aC1_17 := fun o => cell_b c_aC1_17 (below_alloc _ o)
    have bc_aC1_17 := fun o o1 => cell_b (ac_aC1_17 o) (below_alloc _ o1)
    have ac_w00_17 := fun o => cell_b c_w00_17 (below_alloc _ o)
    have bc_w00_17 := fun o o1 => cell_b (ac_w00_17 o) (below_alloc _ o1)
    have ac_w01_17 := fun o => cell_b c_w01_17 (below_alloc _ o)
    have bc_w01_17 := fun o o1 => cell_b (ac_w01_17 o) (below_alloc _ o1)
    have ac_g00_17 := fun o => cell_b c_g00_17 (below_alloc _ o)
    have bc_g00_17 := fun o o1 => cell_b (ac_g00_17 o) (below_alloc _ o1)
    have ac_g01_17 := fun o => cell_b c_g01_17 (below_alloc _ o)
    have bc_g01_17 := fun o o1 => cell_b (ac_g01_17 o) (below_alloc _ o1)
    clear ac_aC0_16 bc_aC0_16 ac_aC1_16 bc_aC1_16 ac_w00_16 bc_w00_16 ac_w01_16 bc_w01_16 ac_g00_16 bc_g00_16 ac_g01_16 bc_g01_16 c_aC0_16 c_aC1_16 c_w00_16 c_w01_16 c_g00_16 c_g01_16 o_W0_16 o_W1_16 o_G0_16 o_G1_16 hb D17 hz T16
    go_wp2_with fail
    refine (I_AddGroup _ _ _ xs _ (own_rd o_z_17.out) (by omega)).mono ?_
    rintro e w18 ⟨aH0, cH0, aH1, cH1, rfl, hH0, hH1, hneH, hb⟩
    have NE_H := Lib.hid hneH
    have D18 : Below w17.heap.size w17 w18 := hb
    have c_aC0_18 := cell_b c_aC0_17 D18
    have c_aC1_18 := cell_b c_aC1_17 D18
    have c_w00_18 := cell_b c_w00_17 D18
    have c_w01_18 := cell_b c_w01_17 D18
    have c_g00_18 := cell_b c_g00_17 D18
    have c_g01_18 := cell_b c_g01_17 D18
    have o_W0_18 := Lib.hid (own_below o_W0_17.out D18)
    have o_W1_18 := Lib.hid (own_below o_W1_17.out D18)
    have o_G0_18 := Lib.hid (own_below o_G0_17.out D18)
    have o_G1_18 := Lib.hid (own_below o_G1_17.out D18)
    have o_z_18 := Lib.hid (own_below o_z_17.out D18)
    have T18 := Lib.hid (below_trans T17.out D18)
    have z18 : w17.heap.size ≤ w18.heap.size := (by have := hb.size; (try simp at this); omega)
    have o_H0_18 := Lib.hid (own_base hH0 (show w17.heap.size ≤ _ by simp; try omega))
    have lo_H0 := Lib.hid (own_lo o_H0_18.out)
    have hi_H0 := Lib.hid (own_hi o_H0_18.out)
    have o_H1_18 := Lib.hid (own_base hH1 (show w17.heap.size ≤ _ by simp; try omega))
    have lo_H1 := Lib.hid (own_lo o_H1_18.out)
    have hi_H1 := Lib.hid (own_hi o_H1_18.out)
    have ac_aC0_18 := fun o => cell_b c_aC0_18 (below_alloc _ o)
    have bc_aC0_18 := fun o o1 => cell_b (ac_aC0_18 o) (below_alloc _ o1)
    have ac_aC1_18 := fun o => cell_b c_aC1_18 (below_alloc _ o)
    have bc_aC1_18 := fun o o1 => cell_b (ac_aC1_18 o) (below_alloc _ o1)
    have ac_w00_18 := fun o => cell_b c_w00_18 (below_alloc _ o)
    have bc_w00_18 := fun o o1 => cell_b (ac_w00_18 o) (below_alloc _ o1)
    have ac_w01_18 := fun o => cell_b c_w01_18 (below_alloc _ o)
    have bc_w01_18 := fun o o1 => cell_b (ac_w01_18 o) (below_alloc _ o1)
    have ac_g00_18 := fun o => cell_b c_g00_18 (below_alloc _ o)
    have bc_g00_18 := fun o o1 => cell_b (ac_g00_18 o) (below_alloc _ o1)
    have ac_g01_18 := fun o => cell_b c_g01_18 (below_alloc _ o)
    have bc_g01_18 := fun o o1 => cell_b (ac_g01_18 o) (below_alloc _ o1)
    clear ac_aC0_17 bc_aC0_17 ac_aC1_17 bc_aC1_17 ac_w00_17 bc_w00_17 ac_w01_17 bc_w01_17 ac_g00_17 bc_g00_17 ac_g01_17 bc_g01_17 c_aC0_17 c_aC1_17 c_w00_17 c_w01_17 c_g00_17 c_g01_17 o_W0_17 o_W1_17 o_G0_17 o_G1_17 o_z_17 hb D18 hH0 hH1 hneH T17
    clear o_z_18
    go_wp2_with fail
    refine (eqB_true (L_eqGroup _ _ _ _ ((addG c xs n).2.1) ((addG c xs n).2.1) (rd_alloc (own_rd o_H0_18.out) _) (rd_alloc (own_rd o_W0_18.out) _) (by first | omega | (simp; try omega)) (by first | omega | (simp; try omega)))).mono ?_
    rintro e w19 ⟨rfl, hb⟩
    have D19 : Below w18.heap.size w18 w19 := below_trans (below_alloc _ _) (hb)
    have c_aC0_19 := cell_b c_aC0_18 D19
    have c_aC1_19 := cell_b c_aC1_18 D19
    have c_w00_19 := cell_b c_w00_18 D19
    have c_w01_19 := cell_b c_w01_18 D19
    have c_g00_19 := cell_b c_g00_18 D19
    have c_g01_19 := cell_b c_g01_18 D19
    have o_W0_19 := Lib.hid (own_below o_W0_18.out D19)
    have o_W1_19 := Lib.hid (own_below o_W1_18.out D19)
    have o_G0_19 := Lib.hid (own_below o_G0_18.out D19)
    have o_G1_19 := Lib.hid (own_below o_G1_18.out D19)
    have o_H0_19 := Lib.hid (own_below o_H0_18.out D19)
    have o_H1_19 := Lib.hid (own_below o_H1_18.out D19)
    have T19 := Lib.hid (below_trans T18.out D19)
    have z19 : w18.heap.size + 1 ≤ w19.heap.size := (by have := hb.size; (try simp at this); omega)
    have c_h00_19 := cell_b (p := ⟨w18.heap.size, 0, none⟩) (v := .int .i64 (addG c xs n).1) (by simp) hb
    have c_h01_19 := cell_b (p := ⟨w18.heap.size, 1, none⟩) (v := .slice aH0 ((addG c xs n).2.1).length cH0) (by simp) hb
    have ac_aC0_19 := fun o => cell_b c_aC0_19 (below_alloc _ o)
    have bc_aC0_19 := fun o o1 => cell_b (ac_aC0_19 o) (below_alloc _ o1)
    have ac_aC1_19 := fun o => cell_b c_aC1_19 (below_alloc _ o)
    have bc_aC1_19 := fun o o1 => cell_b (ac_aC1_19 o) (below_alloc _ o1)
    have ac_w00_19 := fun o => cell_b c_w00_19 (below_alloc _ o)
    have bc_w00_19 := fun o o1 => cell_b (ac_w00_19 o) (below_alloc _ o1)
    have ac_w01_19 := fun o => cell_b c_w01_19 (below_alloc _ o)
    have bc_w01_19 := fun o o1 => cell_b (ac_w01_19 o) (below_alloc _ o1)
    have ac_g00_19 := fun o => cell_b c_g00_19 (below_alloc _ o)
    have bc_g00_19 := fun o o1 => cell_b (ac_g00_19 o) (below_alloc _ o1)
    have ac_g01_19 := fun o => cell_b c_g01_19 (below_alloc _ o)
    have bc_g01_19 := fun o o1 => cell_b (ac_g01_19 o) (below_alloc _ o1)
    have ac_h00_19 := fun o => cell_b c_h00_19 (below_alloc _ o)
    have bc_h00_19 := fun o o1 => cell_b (ac_h00_19 o) (below_alloc _ o1)
    have ac_h01_19 := fun o => cell_b c_h01_19 (below_alloc _ o)
    have bc_h01_19 := fun o o1 => cell_b (ac_h01_19 o) (below_alloc _ o1)
    clear ac_aC0_18 bc_aC0_18 ac_aC1_18 bc_aC1_18 ac_w00_18 bc_w00_18 ac_w01_18 bc_w01_18 ac_g00_18 bc_g00_18 ac_g01_18 bc_g01_18 c_aC0_18 c_aC1_18 c_w00_18 c_w01_18 c_g00_18 c_g01_18 o_W0_18 o_W1_18 o_G0_18 o_G1_18 o_H0_18 o_H1_18 hb D19 T18
    go_wp2_with fail
    refine (eqB_true (drew_b (L_eqIntS _ _ _ ((addG c xs n).2.2.1) ((addG c xs n).2.2.1) (own_rd o_H1_19.out) (own_rd o_W1_19.out) (by first | omega | (simp; try omega)) (by first | omega | (simp; try omega))))).mono ?_
    rintro e w20 ⟨rfl, hb⟩
    have D20 : Below w19.heap.size w19 w20 := hb
    have c_aC0_20 := cell_b c_aC0_19 D20
    have c_aC1_20 := cell_b c_aC1_19 D20
    have c_w00_20 := cell_b c_w00_19 D20
    have c_w01_20 := cell_b c_w01_19 D20
    have c_g00_20 := cell_b c_g00_19 D20
    have c_g01_20 := cell_b c_g01_19 D20
    have c_h00_20 := cell_b c_h00_19 D20
    have c_h01_20 := cell_b c_h01_19 D20
    have o_W0_20 := Lib.hid (own_below o_W0_19.out D20)
    have o_W1_20 := Lib.hid (own_below o_W1_19.out D20)
    have o_G0_20 := Lib.hid (own_below o_G0_19.out D20)
    have o_G1_20 := Lib.hid (own_below o_G1_19.out D20)
    have o_H0_20 := Lib.hid (own_below o_H0_19.out D20)
    have o_H1_20 := Lib.hid (own_below o_H1_19.out D20)
    have T20 := Lib.hid (below_trans T19.out D20)
    have z20 : w19.heap.size ≤ w20.heap.size := (by have := hb.size; (try simp at this); omega)
    have ac_aC0_20 := fun o => cell_b c_aC0_20 (below_alloc _ o)
    have bc_aC0_20 := fun o o1 => cell_b (ac_aC0_20 o) (below_alloc _ o1)
    have ac_aC1_20 := fun o => cell_b c_aC1_20 (below_alloc _ o)
    have bc_aC1_20 := fun o o1 => cell_b (ac_aC1_20 o) (below_alloc _ o1)
    have ac_w00_20 := fun o => cell_b c_w00_20 (below_alloc _ o)
    have bc_w00_20 := fun o o1 => cell_b (ac_w00_20 o) (below_alloc _ o1)
    have ac_w01_20 := fun o => cell_b c_w01_20 (below_alloc _ o)
    have bc_w01_20 := fun o o1 => cell_b (ac_w01_20 o) (below_alloc _ o1)
    have ac_g00_20 := fun o => cell_b c_g00_20 (below_alloc _ o)
    have bc_g00_20 := fun o o1 => cell_b (ac_g00_20 o) (below_alloc _ o1)
    have ac_g01_20 := fun o => cell_b c_g01_20 (below_alloc _ o)
    have bc_g01_20 := fun o o1 => cell_b (ac_g01_20 o) (below_alloc _ o1)
    have ac_h00_20 := fun o => cell_b c_h00_20 (below_alloc _ o)
    have bc_h00_20 := fun o o1 => cell_b (ac_h00_20 o) (below_alloc _ o1)
    have ac_h01_20 := fun o => cell_b c_h01_20 (below_alloc _ o)
    have bc_h01_20 := fun o o1 => cell_b (ac_h01_20 o) (below_alloc _ o1)
    clear ac_aC0_19 bc_aC0_19 ac_aC1_19 bc_aC1_19 ac_w00_19 bc_w00_19 ac_w01_19 bc_w01_19 ac_g00_19 bc_g00_19 ac_g01_19 bc_g01_19 ac_h00_19 bc_h00_19 ac_h01_19 bc_h01_19 c_aC0_19 c_aC1_19 c_w00_19 c_w01_19 c_g00_19 c_g01_19 c_h00_19 c_h01_19 o_W0_19 o_W1_19 o_G0_19 o_G1_19 o_H0_19 o_H1_19 hb D20 T19
    go_wp2_with fail
    refine (L_heldGroup _ _ _ ((addG c xs n).2.1).length _ (own_rd o_G0_20.out) (by first | omega | (simp; try omega)) (by first | omega | (simp; try omega)) (by first | omega | (simp; try omega))).mono ?_
    rintro e w21 ⟨rfl, hb⟩
    have D21 : Below w20.heap.size w20 w21 := hb
    have c_aC0_21 := cell_b c_aC0_20 D21
    have c_aC1_21 := cell_b c_aC1_20 D21
    have c_w00_21 := cell_b c_w00_20 D21
    have c_w01_21 := cell_b c_w01_20 D21
    have c_g00_21 := cell_b c_g00_20 D21
    have c_g01_21 := cell_b c_g01_20 D21
    have c_h00_21 := cell_b c_h00_20 D21
    have c_h01_21 := cell_b c_h01_20 D21
    have o_W0_21 := Lib.hid (own_below o_W0_20.out D21)
    have o_W1_21 := Lib.hid (own_below o_W1_20.out D21)
    have o_G0_21 := Lib.hid (own_below o_G0_20.out D21)
    have o_G1_21 := Lib.hid (own_below o_G1_20.out D21)
    have o_H0_21 := Lib.hid (own_below o_H0_20.out D21)
    have o_H1_21 := Lib.hid (own_below o_H1_20.out D21)
    have T21 := Lib.hid (below_trans T20.out D21)
    have z21 : w20.heap.size ≤ w21.heap.size := (by have := hb.size; (try simp at this); omega)
    have ac_aC0_21 := fun o => cell_b c_aC0_21 (below_alloc _ o)
    have bc_aC0_21 := fun o o1 => cell_b (ac_aC0_21 o) (below_alloc _ o1)
    have ac_aC1_21 := fun o => cell_b c_aC1_21 (below_alloc _ o)
    have bc_aC1_21 := fun o o1 => cell_b (ac_aC1_21 o) (below_alloc _ o1)
    have ac_w00_21 := fun o => cell_b c_w00_21 (below_alloc _ o)
    have bc_w00_21 := fun o o1 => cell_b (ac_w00_21 o) (below_alloc _ o1)
    have ac_w01_21 := fun o => cell_b c_w01_21 (below_alloc _ o)
    have bc_w01_21 := fun o o1 => cell_b (ac_w01_21 o) (below_alloc _ o1)
    have ac_g00_21 := fun o => cell_b c_g00_21 (below_alloc _ o)
    have bc_g00_21 := fun o o1 => cell_b (ac_g00_21 o) (below_alloc _ o1)
    have ac_g01_21 := fun o => cell_b c_g01_21 (below_alloc _ o)
    have bc_g01_21 := fun o o1 => cell_b (ac_g01_21 o) (below_alloc _ o1)
    have ac_h00_21 := fun o => cell_b c_h00_21 (below_alloc _ o)
    have bc_h00_21 := fun o o1 => cell_b (ac_h00_21 o) (below_alloc _ o1)
    have ac_h01_21 := fun o => cell_b c_h01_21 (below_alloc _ o)
    have bc_h01_21 := fun o o1 => cell_b (ac_h01_21 o) (below_alloc _ o1)
    clear ac_aC0_20 bc_aC0_20 ac_aC1_20 bc_aC1_20 ac_w00_20 bc_w00_20 ac_w01_20 bc_w01_20 ac_g00_20 bc_g00_20 ac_g01_20 bc_g01_20 ac_h00_20 bc_h00_20 ac_h01_20 bc_h01_20 c_aC0_20 c_aC1_20 c_w00_20 c_w01_20 c_g00_20 c_g01_20 c_h00_20 c_h01_20 o_W0_20 o_W1_20 o_G0_20 o_G1_20 o_H0_20 o_H1_20 hb D21 T20
    go_wp2_with fail
    refine (same_b (L_heldIntS _ _ ((addG c xs n).2.2.1).length _ (own_rd o_G1_21.out) (by first | omega | (simp; try omega)) (by first | omega | (simp; try omega)) (by first | omega | (simp; try omega)))).mono ?_
    rintro e w22 ⟨rfl, hb⟩
    have D22 : Below w21.heap.size w21 w22 := hb
    have c_aC0_22 := cell_b c_aC0_21 D22
    have c_aC1_22 := cell_b c_aC1_21 D22
    have c_w00_22 := cell_b c_w00_21 D22
    have c_w01_22 := cell_b c_w01_21 D22
    have c_g00_22 := cell_b c_g00_21 D22
    have c_g01_22 := cell_b c_g01_21 D22
    have c_h00_22 := cell_b c_h00_21 D22
    have c_h01_22 := cell_b c_h01_21 D22
    have o_W0_22 := Lib.hid (own_below o_W0_21.out D22)
    have o_W1_22 := Lib.hid (own_below o_W1_21.out D22)
    have o_G0_22 := Lib.hid (own_below o_G0_21.out D22)
    have o_G1_22 := Lib.hid (own_below o_G1_21.out D22)
    have o_H0_22 := Lib.hid (own_below o_H0_21.out D22)
    have o_H1_22 := Lib.hid (own_below o_H1_21.out D22)
    have T22 := Lib.hid (below_trans T21.out D22)
    have z22 : w21.heap.size ≤ w22.heap.size := (by have := hb.size; (try simp at this); omega)
    have ac_aC0_22 := fun o => cell_b c_aC0_22 (below_alloc _ o)
    have bc_aC0_22 := fun o o1 => cell_b (ac_aC0_22 o) (below_alloc _ o1)
    have ac_aC1_22 := fun o => cell_b c_aC1_22 (below_alloc _ o)
    have bc_aC1_22 := fun o o1 => cell_b (ac_aC1_22 o) (below_alloc _ o1)
    have ac_w00_22 := fun o => cell_b c_w00_22 (below_alloc _ o)
    have bc_w00_22 := fun o o1 => cell_b (ac_w00_22 o) (below_alloc _ o1)
    have ac_w01_22 := fun o => cell_b c_w01_22 (below_alloc _ o)
    have bc_w01_22 := fun o o1 => cell_b (ac_w01_22 o) (below_alloc _ o1)
    have ac_g00_22 := fun o => cell_b c_g00_22 (below_alloc _ o)
    have bc_g00_22 := fun o o1 => cell_b (ac_g00_22 o) (below_alloc _ o1)
    have ac_g01_22 := fun o => cell_b c_g01_22 (below_alloc _ o)
    have bc_g01_22 := fun o o1 => cell_b (ac_g01_22 o) (below_alloc _ o1)
    have ac_h00_22 := fun o => cell_b c_h00_22 (below_alloc _ o)
    have bc_h00_22 := fun o o1 => cell_b (ac_h00_22 o) (below_alloc _ o1)
    have ac_h01_22 := fun o => cell_b c_h01_22 (below_alloc _ o)
    have bc_h01_22 := fun o o1 => cell_b (ac_h01_22 o) (below_alloc _ o1)
    clear ac_aC0_21 bc_aC0_21 ac_aC1_21 bc_aC1_21 ac_w00_21 bc_w00_21 ac_w01_21 bc_w01_21 ac_g00_21 bc_g00_21 ac_g01_21 bc_g01_21 ac_h00_21 bc_h00_21 ac_h01_21 bc_h01_21 c_aC0_21 c_aC1_21 c_w00_21 c_w01_21 c_g00_21 c_g01_21 c_h00_21 c_h01_21 o_W0_21 o_W1_21 o_G0_21 o_G1_21 o_H0_21 o_H1_21 hb D22 T21
    go_wp2_with fail
    go_ret
    exact ⟨rfl, T22.out⟩
end Go.Proofs.Ytdlcecijojpmeaa
