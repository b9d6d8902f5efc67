/- The law FnWaitGroup: the walk. -/
import Derived.Test.YtgdhbhgkfcgjdaaCodeGroup
import Derived.Test.YtgdhbhgkfcgjdaaPlainGroup
import Derived.Deep.RegionHeld3
import Derived.Deep.DrawnRows
namespace Go.Proofs.Ytgdhbhgkfcgjdaa
open Go.RowKit
attribute [local go_sem ↓] Go.wp_at_zero Go.wp_at_succ
set_option maxHeartbeats 4000000 in
set_option maxRecDepth 100000 in
theorem W_FnWaitGroup (w : World) (v : Value) (n : Nat) (hv : RdY w v n) (hm : n ≤ 9223372036854775807) :
    Calls Try.prog 5 #[v] w fun e w' => e = .returned (.bool true) ∧ Below w.heap.size w w' := by
  have HV := Lib.hid hv
  obtain ⟨a, cap, rfl, hcap, hnc, hr⟩ := hv
  clear hr hnc
  by_cases hbig : 1048576 < n
  · go_enter Try.func5, Try.ntmps5
    go_wp2
    go_ret
    exact ⟨rfl, Below.refl _ _⟩
  · go_enter Try.func5, Try.ntmps5
    have T_0 : Hid (Below w.heap.size w w) := Lib.hid (Below.refl _ _)
    go_wp2_with fail
    (with_reducible refine (S_DrawWaitGroup _ _ n HV.out (by omega)).mono ?_)
    rintro e w1 ⟨c, xs, t, a1, c1, rfl, hx, hd, hb⟩
    have T_1 := Lib.hid (below_trans (T_0.out) hb)
    have z_1 : w.heap.size ≤ w1.heap.size := (by have := hb.size; (try simp at this); omega)
    have r_c_1 := Lib.hid (rdb_mono hd (show w.heap.size ≤ _ by first | omega | (simp; done) | (simp; omega)))
    have lr_c := Lib.hid (rdb_lo r_c_1.out)
    have hr_c := Lib.hid (rdb_hi r_c_1.out)
    clear hb T_0 hd
    by_cases hok : wgOk c xs t = true
    · by_cases hz : c = 0
      · have HV1 := Lib.hid hok
        have hz0 : (c == 0) = true := by simpa using hz
        have HX := Lib.hid (wgOk_nil hok hz)
        have HZ := Lib.hid hz
        clear hz
        have HT1 : Hid (wg c xs t = (0, ([] : List Int), true, true)) := Lib.hid (by rw [wg_eq, if_pos HV1.out, if_pos HZ.out])
        have HQ2 : Hid ((wg c xs t).1 = 0) := Lib.hid (by rw [HT1.out])
        have HQ3 : Hid ((wg c xs t).2.1 = ([] : List Int)) := Lib.hid (by rw [HT1.out])
        have HQ4 : Hid ((wg c xs t).2.2.1 = true) := Lib.hid (by rw [HT1.out])
        have HQ5 : Hid ((wg c xs t).2.2.2 = true) := Lib.hid (by rw [HT1.out])
        go_wp2_with fail
        (with_reducible refine (I_WaitGroup_q _ (c) _ (xs) (t) (0) (([] : List Int)) (true) (true) (0) (rdb_rd (rdb_b (r_c_1.out) (below_alloc _ _))) (by first | omega | (simp; done) | (simp; omega)) HQ2.out HQ3.out HQ4.out HQ5.out rfl).mono ?_)
        rintro e w2 ⟨aX0, cX0, rfl, hX0, hb⟩
        have c_C0_2 := cell_b (p := ⟨w1.heap.size, 0, none⟩) (v := .int .i64 c) (by simp) hb
        have f_C0_2 := frz_b (p := ⟨w1.heap.size, 0, none⟩) (by first | omega | (simp; done) | (simp; omega)) (show _ = false by simp) hb
        have c_C1_2 := cell_b (p := ⟨w1.heap.size, 1, none⟩) (v := .slice a1 xs.length c1) (by simp) hb
        have f_C1_2 := frz_b (p := ⟨w1.heap.size, 1, none⟩) (by first | omega | (simp; done) | (simp; omega)) (show _ = false by simp) hb
        have r_c_2 := Lib.hid (rdb_b (rdb_b (r_c_1.out) (below_alloc _ _)) hb)
        have T_2 := Lib.hid (below_trans (below_trans (T_1.out) (below_alloc _ _)) hb)
        have z_2 : w1.heap.size + 1 ≤ w2.heap.size := (by have := hb.size; (try simp at this); omega)
        have r_X0_2 := Lib.hid (rdb_mono hX0 (show w1.heap.size + 1 ≤ _ by first | omega | (simp; done) | (simp; omega)))
        have lr_X0 := Lib.hid (rdb_lo r_X0_2.out)
        have hr_X0 := Lib.hid (rdb_hi r_X0_2.out)
        have ac_C0_2 := fun o => cell_b (c_C0_2) (below_alloc _ o)
        have bc_C0_2 := fun o o1 => cell_b (ac_C0_2 o) (below_alloc _ o1)
        have ac_C1_2 := fun o => cell_b (c_C1_2) (below_alloc _ o)
        have bc_C1_2 := fun o o1 => cell_b (ac_C1_2 o) (below_alloc _ o1)
        have af_C0_2 := fun o => frz_b (cell_lt (c_C0_2)) (f_C0_2) (below_alloc _ o)
        have bf_C0_2 := fun o o1 => frz_b (cell_lt (ac_C0_2 o)) (af_C0_2 o) (below_alloc _ o1)
        have af_C1_2 := fun o => frz_b (cell_lt (c_C1_2)) (f_C1_2) (below_alloc _ o)
        have bf_C1_2 := fun o o1 => frz_b (cell_lt (ac_C1_2 o)) (af_C1_2 o) (below_alloc _ o1)
        clear hb r_c_1 T_1 hX0
        go_wp2_with fail
        (with_reducible refine (S_WaitGroup_q _ (c) _ (xs) (t) (0) (([] : List Int)) (true) (true) (0) (rdb_rd (rdb_b (r_c_2.out) (below_alloc _ _))) (by first | omega | (simp; done) | (simp; omega)) HQ2.out HQ3.out HQ4.out HQ5.out rfl).mono ?_)
        rintro e w3 ⟨aY0, cY0, rfl, hY0, hb⟩
        have c_C0_3 := cell_b (cell_b (c_C0_2) (below_alloc _ _)) hb
        have c_C1_3 := cell_b (cell_b (c_C1_2) (below_alloc _ _)) hb
        have f_C0_3 := frz_b (cell_lt (cell_b (c_C0_2) (below_alloc _ _))) (frz_b (cell_lt (c_C0_2)) (f_C0_2) (below_alloc _ _)) hb
        have f_C1_3 := frz_b (cell_lt (cell_b (c_C1_2) (below_alloc _ _))) (frz_b (cell_lt (c_C1_2)) (f_C1_2) (below_alloc _ _)) hb
        have c_X0_3 := cell_b (p := ⟨w2.heap.size, 0, none⟩) (v := .int .i64 (0)) (by simp) hb
        have c_X1_3 := cell_b (p := ⟨w2.heap.size, 1, none⟩) (v := .slice aX0 (0) cX0) (by simp) hb
        have r_c_3 := Lib.hid (rdb_b (rdb_b (r_c_2.out) (below_alloc _ _)) hb)
        have r_X0_3 := Lib.hid (rdb_b (rdb_b (r_X0_2.out) (below_alloc _ _)) hb)
        have T_3 := Lib.hid (below_trans (below_trans (T_2.out) (below_alloc _ _)) hb)
        have z_3 : w2.heap.size + 1 ≤ w3.heap.size := (by have := hb.size; (try simp at this); omega)
        have r_Y0_3 := Lib.hid (rdb_mono hY0 (show w2.heap.size + 1 ≤ _ by first | omega | (simp; done) | (simp; omega)))
        have lr_Y0 := Lib.hid (rdb_lo r_Y0_3.out)
        have hr_Y0 := Lib.hid (rdb_hi r_Y0_3.out)
        have ac_C0_3 := fun o => cell_b (c_C0_3) (below_alloc _ o)
        have bc_C0_3 := fun o o1 => cell_b (ac_C0_3 o) (below_alloc _ o1)
        have ac_C1_3 := fun o => cell_b (c_C1_3) (below_alloc _ o)
        have bc_C1_3 := fun o o1 => cell_b (ac_C1_3 o) (below_alloc _ o1)
        have ac_X0_3 := fun o => cell_b (c_X0_3) (below_alloc _ o)
        have bc_X0_3 := fun o o1 => cell_b (ac_X0_3 o) (below_alloc _ o1)
        have ac_X1_3 := fun o => cell_b (c_X1_3) (below_alloc _ o)
        have bc_X1_3 := fun o o1 => cell_b (ac_X1_3 o) (below_alloc _ o1)
        have af_C0_3 := fun o => frz_b (cell_lt (c_C0_3)) (f_C0_3) (below_alloc _ o)
        have bf_C0_3 := fun o o1 => frz_b (cell_lt (ac_C0_3 o)) (af_C0_3 o) (below_alloc _ o1)
        have af_C1_3 := fun o => frz_b (cell_lt (c_C1_3)) (f_C1_3) (below_alloc _ o)
        have bf_C1_3 := fun o o1 => frz_b (cell_lt (ac_C1_3 o)) (af_C1_3 o) (below_alloc _ o1)
        clear hb c_C0_2 c_C1_2 f_C0_2 f_C1_2 r_c_2 r_X0_2 T_2 ac_C0_2 bc_C0_2 ac_C1_2 bc_C1_2 af_C0_2 bf_C0_2 af_C1_2 bf_C1_2 hY0
        go_wp2_with fail
        (with_reducible refine (I_GroupSame_q _ (0) (0) _ (([] : List Int)) _ (([] : List Int)) true (rdb_rd (rdb_b (r_X0_3.out) (below_alloc _ _))) (rdb_rd (rdb_b (r_Y0_3.out) (below_alloc _ _))) (by first | omega | (simp; done) | (simp; omega)) (by first | omega | (simp; done) | (simp; omega)) (by simp [eqB_self])).mono ?_)
        rintro e w4 ⟨rfl, hb⟩
        have c_C0_4 := cell_b (cell_b (c_C0_3) (below_alloc _ _)) hb
        have c_C1_4 := cell_b (cell_b (c_C1_3) (below_alloc _ _)) hb
        have c_X0_4 := cell_b (cell_b (c_X0_3) (below_alloc _ _)) hb
        have c_X1_4 := cell_b (cell_b (c_X1_3) (below_alloc _ _)) hb
        have f_C0_4 := frz_b (cell_lt (cell_b (c_C0_3) (below_alloc _ _))) (frz_b (cell_lt (c_C0_3)) (f_C0_3) (below_alloc _ _)) hb
        have f_C1_4 := frz_b (cell_lt (cell_b (c_C1_3) (below_alloc _ _))) (frz_b (cell_lt (c_C1_3)) (f_C1_3) (below_alloc _ _)) hb
        have c_Y0_4 := cell_b (p := ⟨w3.heap.size, 0, none⟩) (v := .int .i64 (0)) (by simp) hb
        have c_Y1_4 := cell_b (p := ⟨w3.heap.size, 1, none⟩) (v := .slice aY0 (0) cY0) (by simp) hb
        have r_c_4 := Lib.hid (rdb_b (rdb_b (r_c_3.out) (below_alloc _ _)) hb)
        have r_X0_4 := Lib.hid (rdb_b (rdb_b (r_X0_3.out) (below_alloc _ _)) hb)
        have r_Y0_4 := Lib.hid (rdb_b (rdb_b (r_Y0_3.out) (below_alloc _ _)) hb)
        have T_4 := Lib.hid (below_trans (below_trans (T_3.out) (below_alloc _ _)) hb)
        have z_4 : w3.heap.size + 1 ≤ w4.heap.size := (by have := hb.size; (try simp at this); omega)
        have ac_C0_4 := fun o => cell_b (c_C0_4) (below_alloc _ o)
        have bc_C0_4 := fun o o1 => cell_b (ac_C0_4 o) (below_alloc _ o1)
        have ac_C1_4 := fun o => cell_b (c_C1_4) (below_alloc _ o)
        have bc_C1_4 := fun o o1 => cell_b (ac_C1_4 o) (below_alloc _ o1)
        have ac_X0_4 := fun o => cell_b (c_X0_4) (below_alloc _ o)
        have bc_X0_4 := fun o o1 => cell_b (ac_X0_4 o) (below_alloc _ o1)
        have ac_X1_4 := fun o => cell_b (c_X1_4) (below_alloc _ o)
        have bc_X1_4 := fun o o1 => cell_b (ac_X1_4 o) (below_alloc _ o1)
        have ac_Y0_4 := fun o => cell_b (c_Y0_4) (below_alloc _ o)
        have bc_Y0_4 := fun o o1 => cell_b (ac_Y0_4 o) (below_alloc _ o1)
        have ac_Y1_4 := fun o => cell_b (c_Y1_4) (below_alloc _ o)
        have bc_Y1_4 := fun o o1 => cell_b (ac_Y1_4 o) (below_alloc _ o1)
        have af_C0_4 := fun o => frz_b (cell_lt (c_C0_4)) (f_C0_4) (below_alloc _ o)
        have bf_C0_4 := fun o o1 => frz_b (cell_lt (ac_C0_4 o)) (af_C0_4 o) (below_alloc _ o1)
        have af_C1_4 := fun o => frz_b (cell_lt (c_C1_4)) (f_C1_4) (below_alloc _ o)
        have bf_C1_4 := fun o o1 => frz_b (cell_lt (ac_C1_4 o)) (af_C1_4 o) (below_alloc _ o1)
        clear hb c_C0_3 c_C1_3 c_X0_3 c_X1_3 f_C0_3 f_C1_3 r_c_3 r_X0_3 r_Y0_3 T_3 ac_C0_3 bc_C0_3 ac_C1_3 bc_C1_3 ac_X0_3 bc_X0_3 ac_X1_3 bc_X1_3 af_C0_3 bf_C0_3 af_C1_3 bf_C1_3
        clear c_Y0_4 ac_Y0_4 bc_Y0_4 c_Y1_4 ac_Y1_4 bc_Y1_4 r_Y0_4 lr_Y0 hr_Y0
        have HQ6 : Hid ((decide ((0 : Int) = c) && eqB [] xs) = true) := Lib.hid (by rw [HX.out, HZ.out]; simp [eqB_self])
        go_wp2_with fail
        (with_reducible refine (I_GroupSame_q _ (0) (c) _ (([] : List Int)) _ (xs) true (rdb_rd (r_X0_4.out)) (rdb_rd (r_c_4.out)) (by first | omega | (simp; done) | (simp; omega)) (by first | omega | (simp; done) | (simp; omega)) HQ6.out).mono ?_)
        rintro e w5 ⟨rfl, hb⟩
        have c_C0_5 := cell_b (c_C0_4) hb
        have c_C1_5 := cell_b (c_C1_4) hb
        have c_X0_5 := cell_b (c_X0_4) hb
        have c_X1_5 := cell_b (c_X1_4) hb
        have f_C0_5 := frz_b (cell_lt (c_C0_4)) (f_C0_4) hb
        have f_C1_5 := frz_b (cell_lt (c_C1_4)) (f_C1_4) hb
        have r_c_5 := Lib.hid (rdb_b (r_c_4.out) hb)
        have r_X0_5 := Lib.hid (rdb_b (r_X0_4.out) hb)
        have T_5 := Lib.hid (below_trans (T_4.out) hb)
        have z_5 : w4.heap.size ≤ w5.heap.size := (by have := hb.size; (try simp at this); omega)
        have ac_C0_5 := fun o => cell_b (c_C0_5) (below_alloc _ o)
        have bc_C0_5 := fun o o1 => cell_b (ac_C0_5 o) (below_alloc _ o1)
        have ac_C1_5 := fun o => cell_b (c_C1_5) (below_alloc _ o)
        have bc_C1_5 := fun o o1 => cell_b (ac_C1_5 o) (below_alloc _ o1)
        have ac_X0_5 := fun o => cell_b (c_X0_5) (below_alloc _ o)
        have bc_X0_5 := fun o o1 => cell_b (ac_X0_5 o) (below_alloc _ o1)
        have ac_X1_5 := fun o => cell_b (c_X1_5) (below_alloc _ o)
        have bc_X1_5 := fun o o1 => cell_b (ac_X1_5 o) (below_alloc _ o1)
        have af_C0_5 := fun o => frz_b (cell_lt (c_C0_5)) (f_C0_5) (below_alloc _ o)
        have bf_C0_5 := fun o o1 => frz_b (cell_lt (ac_C0_5 o)) (af_C0_5 o) (below_alloc _ o1)
        have af_C1_5 := fun o => frz_b (cell_lt (c_C1_5)) (f_C1_5) (below_alloc _ o)
        have bf_C1_5 := fun o o1 => frz_b (cell_lt (ac_C1_5 o)) (af_C1_5 o) (below_alloc _ o1)
        clear hb c_C0_4 c_C1_4 c_X0_4 c_X1_4 f_C0_4 f_C1_4 r_c_4 r_X0_4 T_4 ac_C0_4 bc_C0_4 ac_C1_4 bc_C1_4 ac_X0_4 bc_X0_4 ac_X1_4 bc_X1_4 af_C0_4 bf_C0_4 af_C1_4 bf_C1_4
        go_wp2_with fail
        go_ret
        exact ⟨rfl, (T_5.out)⟩
      · have HV1 := Lib.hid hok
        have hz0 : (c == 0) = false := by simpa using hz
        have E9 := Lib.hid (gval_snoc hok hz)
        obtain ⟨hc0, hc1, hxl⟩ := wgOk_in hok
        have hc2 : 0 < c := by omega
        have EN : Hid ((xs ++ [t]).length = xs.length + 1) := Lib.hid (by simp)
        have HT1 : Hid (wg c xs t = (c, xs ++ [t], false, true)) := Lib.hid (by rw [wg_eq, if_pos HV1.out, if_neg hz])
        have HQ2 : Hid ((wg c xs t).1 = c) := Lib.hid (by rw [HT1.out])
        have HQ3 : Hid ((wg c xs t).2.1 = xs ++ [t]) := Lib.hid (by rw [HT1.out])
        have HQ4 : Hid ((wg c xs t).2.2.1 = false) := Lib.hid (by rw [HT1.out])
        have HQ5 : Hid ((wg c xs t).2.2.2 = true) := Lib.hid (by rw [HT1.out])
        go_wp2_with fail
        (with_reducible refine (I_WaitGroup_q _ (c) _ (xs) (t) (c) (xs ++ [t]) (false) (true) (xs.length + 1) (rdb_rd (rdb_b (r_c_1.out) (below_alloc _ _))) (by first | omega | (simp; done) | (simp; omega)) HQ2.out HQ3.out HQ4.out HQ5.out EN.out).mono ?_)
        rintro e w2 ⟨aX0, cX0, rfl, hX0, hb⟩
        have c_C0_2 := cell_b (p := ⟨w1.heap.size, 0, none⟩) (v := .int .i64 c) (by simp) hb
        have f_C0_2 := frz_b (p := ⟨w1.heap.size, 0, none⟩) (by first | omega | (simp; done) | (simp; omega)) (show _ = false by simp) hb
        have c_C1_2 := cell_b (p := ⟨w1.heap.size, 1, none⟩) (v := .slice a1 xs.length c1) (by simp) hb
        have f_C1_2 := frz_b (p := ⟨w1.heap.size, 1, none⟩) (by first | omega | (simp; done) | (simp; omega)) (show _ = false by simp) hb
        have r_c_2 := Lib.hid (rdb_b (rdb_b (r_c_1.out) (below_alloc _ _)) hb)
        have T_2 := Lib.hid (below_trans (below_trans (T_1.out) (below_alloc _ _)) hb)
        have z_2 : w1.heap.size + 1 ≤ w2.heap.size := (by have := hb.size; (try simp at this); omega)
        have r_X0_2 := Lib.hid (rdb_mono hX0 (show w1.heap.size + 1 ≤ _ by first | omega | (simp; done) | (simp; omega)))
        have lr_X0 := Lib.hid (rdb_lo r_X0_2.out)
        have hr_X0 := Lib.hid (rdb_hi r_X0_2.out)
        have ac_C0_2 := fun o => cell_b (c_C0_2) (below_alloc _ o)
        have bc_C0_2 := fun o o1 => cell_b (ac_C0_2 o) (below_alloc _ o1)
        have ac_C1_2 := fun o => cell_b (c_C1_2) (below_alloc _ o)
        have bc_C1_2 := fun o o1 => cell_b (ac_C1_2 o) (below_alloc _ o1)
        have af_C0_2 := fun o => frz_b (cell_lt (c_C0_2)) (f_C0_2) (below_alloc _ o)
        have bf_C0_2 := fun o o1 => frz_b (cell_lt (ac_C0_2 o)) (af_C0_2 o) (below_alloc _ o1)
        have af_C1_2 := fun o => frz_b (cell_lt (c_C1_2)) (f_C1_2) (below_alloc _ o)
        have bf_C1_2 := fun o o1 => frz_b (cell_lt (ac_C1_2 o)) (af_C1_2 o) (below_alloc _ o1)
        clear hb r_c_1 T_1 hX0
        go_wp2_with fail
        (with_reducible refine (S_WaitGroup_q _ (c) _ (xs) (t) (c) (xs ++ [t]) (false) (true) (xs.length + 1) (rdb_rd (rdb_b (r_c_2.out) (below_alloc _ _))) (by first | omega | (simp; done) | (simp; omega)) HQ2.out HQ3.out HQ4.out HQ5.out EN.out).mono ?_)
        rintro e w3 ⟨aY0, cY0, rfl, hY0, hb⟩
        have c_C0_3 := cell_b (cell_b (c_C0_2) (below_alloc _ _)) hb
        have c_C1_3 := cell_b (cell_b (c_C1_2) (below_alloc _ _)) hb
        have f_C0_3 := frz_b (cell_lt (cell_b (c_C0_2) (below_alloc _ _))) (frz_b (cell_lt (c_C0_2)) (f_C0_2) (below_alloc _ _)) hb
        have f_C1_3 := frz_b (cell_lt (cell_b (c_C1_2) (below_alloc _ _))) (frz_b (cell_lt (c_C1_2)) (f_C1_2) (below_alloc _ _)) hb
        have c_X0_3 := cell_b (p := ⟨w2.heap.size, 0, none⟩) (v := .int .i64 (c)) (by simp) hb
        have c_X1_3 := cell_b (p := ⟨w2.heap.size, 1, none⟩) (v := .slice aX0 (xs.length + 1) cX0) (by simp) hb
        have r_c_3 := Lib.hid (rdb_b (rdb_b (r_c_2.out) (below_alloc _ _)) hb)
        have r_X0_3 := Lib.hid (rdb_b (rdb_b (r_X0_2.out) (below_alloc _ _)) hb)
        have T_3 := Lib.hid (below_trans (below_trans (T_2.out) (below_alloc _ _)) hb)
        have z_3 : w2.heap.size + 1 ≤ w3.heap.size := (by have := hb.size; (try simp at this); omega)
        have r_Y0_3 := Lib.hid (rdb_mono hY0 (show w2.heap.size + 1 ≤ _ by first | omega | (simp; done) | (simp; omega)))
        have lr_Y0 := Lib.hid (rdb_lo r_Y0_3.out)
        have hr_Y0 := Lib.hid (rdb_hi r_Y0_3.out)
        have ac_C0_3 := fun o => cell_b (c_C0_3) (below_alloc _ o)
        have bc_C0_3 := fun o o1 => cell_b (ac_C0_3 o) (below_alloc _ o1)
        have ac_C1_3 := fun o => cell_b (c_C1_3) (below_alloc _ o)
        have bc_C1_3 := fun o o1 => cell_b (ac_C1_3 o) (below_alloc _ o1)
        have ac_X0_3 := fun o => cell_b (c_X0_3) (below_alloc _ o)
        have bc_X0_3 := fun o o1 => cell_b (ac_X0_3 o) (below_alloc _ o1)
        have ac_X1_3 := fun o => cell_b (c_X1_3) (below_alloc _ o)
        have bc_X1_3 := fun o o1 => cell_b (ac_X1_3 o) (below_alloc _ o1)
        have af_C0_3 := fun o => frz_b (cell_lt (c_C0_3)) (f_C0_3) (below_alloc _ o)
        have bf_C0_3 := fun o o1 => frz_b (cell_lt (ac_C0_3 o)) (af_C0_3 o) (below_alloc _ o1)
        have af_C1_3 := fun o => frz_b (cell_lt (c_C1_3)) (f_C1_3) (below_alloc _ o)
        have bf_C1_3 := fun o o1 => frz_b (cell_lt (ac_C1_3 o)) (af_C1_3 o) (below_alloc _ o1)
        clear hb c_C0_2 c_C1_2 f_C0_2 f_C1_2 r_c_2 r_X0_2 T_2 ac_C0_2 bc_C0_2 ac_C1_2 bc_C1_2 af_C0_2 bf_C0_2 af_C1_2 bf_C1_2 hY0
        go_wp2_with fail
        (with_reducible refine (I_GroupSame_q _ (c) (c) _ (xs ++ [t]) _ (xs ++ [t]) true (rdb_rd (rdb_b (r_X0_3.out) (below_alloc _ _))) (rdb_rd (rdb_b (r_Y0_3.out) (below_alloc _ _))) (by first | omega | (simp; done) | (simp; omega)) (by first | omega | (simp; done) | (simp; omega)) (by simp [eqB_self])).mono ?_)
        rintro e w4 ⟨rfl, hb⟩
        have c_C0_4 := cell_b (cell_b (c_C0_3) (below_alloc _ _)) hb
        have c_C1_4 := cell_b (cell_b (c_C1_3) (below_alloc _ _)) hb
        have c_X0_4 := cell_b (cell_b (c_X0_3) (below_alloc _ _)) hb
        have c_X1_4 := cell_b (cell_b (c_X1_3) (below_alloc _ _)) hb
        have f_C0_4 := frz_b (cell_lt (cell_b (c_C0_3) (below_alloc _ _))) (frz_b (cell_lt (c_C0_3)) (f_C0_3) (below_alloc _ _)) hb
        have f_C1_4 := frz_b (cell_lt (cell_b (c_C1_3) (below_alloc _ _))) (frz_b (cell_lt (c_C1_3)) (f_C1_3) (below_alloc _ _)) hb
        have c_Y0_4 := cell_b (p := ⟨w3.heap.size, 0, none⟩) (v := .int .i64 (c)) (by simp) hb
        have c_Y1_4 := cell_b (p := ⟨w3.heap.size, 1, none⟩) (v := .slice aY0 (xs.length + 1) cY0) (by simp) hb
        have r_c_4 := Lib.hid (rdb_b (rdb_b (r_c_3.out) (below_alloc _ _)) hb)
        have r_X0_4 := Lib.hid (rdb_b (rdb_b (r_X0_3.out) (below_alloc _ _)) hb)
        have r_Y0_4 := Lib.hid (rdb_b (rdb_b (r_Y0_3.out) (below_alloc _ _)) hb)
        have T_4 := Lib.hid (below_trans (below_trans (T_3.out) (below_alloc _ _)) hb)
        have z_4 : w3.heap.size + 1 ≤ w4.heap.size := (by have := hb.size; (try simp at this); omega)
        have ac_C0_4 := fun o => cell_b (c_C0_4) (below_alloc _ o)
        have bc_C0_4 := fun o o1 => cell_b (ac_C0_4 o) (below_alloc _ o1)
        have ac_C1_4 := fun o => cell_b (c_C1_4) (below_alloc _ o)
        have bc_C1_4 := fun o o1 => cell_b (ac_C1_4 o) (below_alloc _ o1)
        have ac_X0_4 := fun o => cell_b (c_X0_4) (below_alloc _ o)
        have bc_X0_4 := fun o o1 => cell_b (ac_X0_4 o) (below_alloc _ o1)
        have ac_X1_4 := fun o => cell_b (c_X1_4) (below_alloc _ o)
        have bc_X1_4 := fun o o1 => cell_b (ac_X1_4 o) (below_alloc _ o1)
        have ac_Y0_4 := fun o => cell_b (c_Y0_4) (below_alloc _ o)
        have bc_Y0_4 := fun o o1 => cell_b (ac_Y0_4 o) (below_alloc _ o1)
        have ac_Y1_4 := fun o => cell_b (c_Y1_4) (below_alloc _ o)
        have bc_Y1_4 := fun o o1 => cell_b (ac_Y1_4 o) (below_alloc _ o1)
        have af_C0_4 := fun o => frz_b (cell_lt (c_C0_4)) (f_C0_4) (below_alloc _ o)
        have bf_C0_4 := fun o o1 => frz_b (cell_lt (ac_C0_4 o)) (af_C0_4 o) (below_alloc _ o1)
        have af_C1_4 := fun o => frz_b (cell_lt (c_C1_4)) (f_C1_4) (below_alloc _ o)
        have bf_C1_4 := fun o o1 => frz_b (cell_lt (ac_C1_4 o)) (af_C1_4 o) (below_alloc _ o1)
        clear hb c_C0_3 c_C1_3 c_X0_3 c_X1_3 f_C0_3 f_C1_3 r_c_3 r_X0_3 r_Y0_3 T_3 ac_C0_3 bc_C0_3 ac_C1_3 bc_C1_3 ac_X0_3 bc_X0_3 ac_X1_3 bc_X1_3 af_C0_3 bf_C0_3 af_C1_3 bf_C1_3
        clear c_Y0_4 ac_Y0_4 bc_Y0_4 c_Y1_4 ac_Y1_4 bc_Y1_4 r_Y0_4 lr_Y0 hr_Y0
        have HA := Lib.hid (addG_undo E9.out (by omega))
        have HQ6 : Hid ((addG c (xs ++ [t]) (-c)).1 = 0) := Lib.hid (by rw [HA.out])
        have HQ7 : Hid ((addG c (xs ++ [t]) (-c)).2.1 = ([] : List Int)) := Lib.hid (by rw [HA.out])
        have HQ8 : Hid ((addG c (xs ++ [t]) (-c)).2.2.1 = xs ++ [t]) := Lib.hid (by rw [HA.out])
        have HQ9 : Hid ((addG c (xs ++ [t]) (-c)).2.2.2 = true) := Lib.hid (by rw [HA.out])
        go_wp2_with fail
        (with_reducible refine (I_AddGroup_q _ (c) _ (xs ++ [t]) (-c) (0) (([] : List Int)) (xs ++ [t]) (true) (0) (xs.length + 1) (rdb_rd (r_X0_4.out)) (by first | omega | (simp; done) | (simp; omega)) HQ6.out HQ7.out HQ8.out HQ9.out rfl EN.out).mono ?_)
        rintro e w5 ⟨aZ0, cZ0, aZ1, cZ1, rfl, hZ0, hZ1, hb⟩
        have c_C0_5 := cell_b (c_C0_4) hb
        have c_C1_5 := cell_b (c_C1_4) hb
        have c_X0_5 := cell_b (c_X0_4) hb
        have c_X1_5 := cell_b (c_X1_4) hb
        have f_C0_5 := frz_b (cell_lt (c_C0_4)) (f_C0_4) hb
        have f_C1_5 := frz_b (cell_lt (c_C1_4)) (f_C1_4) hb
        have r_c_5 := Lib.hid (rdb_b (r_c_4.out) hb)
        have r_X0_5 := Lib.hid (rdb_b (r_X0_4.out) hb)
        have T_5 := Lib.hid (below_trans (T_4.out) hb)
        have z_5 : w4.heap.size ≤ w5.heap.size := (by have := hb.size; (try simp at this); omega)
        have r_Z0_5 := Lib.hid (rdb_mono hZ0 (show w4.heap.size ≤ _ by first | omega | (simp; done) | (simp; omega)))
        have lr_Z0 := Lib.hid (rdb_lo r_Z0_5.out)
        have hr_Z0 := Lib.hid (rdb_hi r_Z0_5.out)
        have r_Z1_5 := Lib.hid (rdb_mono hZ1 (show w4.heap.size ≤ _ by first | omega | (simp; done) | (simp; omega)))
        have lr_Z1 := Lib.hid (rdb_lo r_Z1_5.out)
        have hr_Z1 := Lib.hid (rdb_hi r_Z1_5.out)
        have ac_C0_5 := fun o => cell_b (c_C0_5) (below_alloc _ o)
        have bc_C0_5 := fun o o1 => cell_b (ac_C0_5 o) (below_alloc _ o1)
        have ac_C1_5 := fun o => cell_b (c_C1_5) (below_alloc _ o)
        have bc_C1_5 := fun o o1 => cell_b (ac_C1_5 o) (below_alloc _ o1)
        have ac_X0_5 := fun o => cell_b (c_X0_5) (below_alloc _ o)
        have bc_X0_5 := fun o o1 => cell_b (ac_X0_5 o) (below_alloc _ o1)
        have ac_X1_5 := fun o => cell_b (c_X1_5) (below_alloc _ o)
        have bc_X1_5 := fun o o1 => cell_b (ac_X1_5 o) (below_alloc _ o1)
        have af_C0_5 := fun o => frz_b (cell_lt (c_C0_5)) (f_C0_5) (below_alloc _ o)
        have bf_C0_5 := fun o o1 => frz_b (cell_lt (ac_C0_5 o)) (af_C0_5 o) (below_alloc _ o1)
        have af_C1_5 := fun o => frz_b (cell_lt (c_C1_5)) (f_C1_5) (below_alloc _ o)
        have bf_C1_5 := fun o o1 => frz_b (cell_lt (ac_C1_5 o)) (af_C1_5 o) (below_alloc _ o1)
        clear hb c_C0_4 c_C1_4 c_X0_4 c_X1_4 f_C0_4 f_C1_4 r_c_4 r_X0_4 T_4 ac_C0_4 bc_C0_4 ac_C1_4 bc_C1_4 ac_X0_4 bc_X0_4 ac_X1_4 bc_X1_4 af_C0_4 bf_C0_4 af_C1_4 bf_C1_4 hZ0 hZ1
        obtain ⟨gz, oz, rfl, hcz, hcap9, hrz⟩ := rdb_last r_Z1_5.out
        have c_Q0_5 := hcz
        clear hcz hrz
        have i1 : (0 : Int) ≤ (xs.length : Int) := by omega
        have i2 : (xs.length : Int) < (xs.length : Int) + 1 := by omega
        have y1 : IntKind.i64.wrap ((xs.length : Int) + 1 - 1) = (xs.length : Int) := by rw [IntWalk.i64_in _ (by omega)]; omega
        have y2 : IntKind.i64.wrap (xs.length : Int) = (xs.length : Int) := IntWalk.i64_in _ (by omega)
        go_wp2_with fail
        (with_reducible refine (I_GroupValid_q _ (c) _ (xs ++ [t])  (true) (rdb_rd (rdb_b (r_X0_5.out) (below_alloc _ _))) (by first | omega | (simp; done) | (simp; omega)) E9.out).mono ?_)
        rintro e w6 ⟨rfl, hb⟩
        have c_C0_6 := cell_b (cell_b (c_C0_5) (below_alloc _ _)) hb
        have c_C1_6 := cell_b (cell_b (c_C1_5) (below_alloc _ _)) hb
        have c_X0_6 := cell_b (cell_b (c_X0_5) (below_alloc _ _)) hb
        have c_X1_6 := cell_b (cell_b (c_X1_5) (below_alloc _ _)) hb
        have c_Q0_6 := cell_b (cell_b (c_Q0_5) (below_alloc _ _)) hb
        have f_C0_6 := frz_b (cell_lt (cell_b (c_C0_5) (below_alloc _ _))) (frz_b (cell_lt (c_C0_5)) (f_C0_5) (below_alloc _ _)) hb
        have f_C1_6 := frz_b (cell_lt (cell_b (c_C1_5) (below_alloc _ _))) (frz_b (cell_lt (c_C1_5)) (f_C1_5) (below_alloc _ _)) hb
        have c_Z0_6 := cell_b (p := ⟨w5.heap.size, 0, none⟩) (v := .int .i64 (0)) (by simp) hb
        have c_Z1_6 := cell_b (p := ⟨w5.heap.size, 1, none⟩) (v := .slice aZ0 (0) cZ0) (by simp) hb
        have r_c_6 := Lib.hid (rdb_b (rdb_b (r_c_5.out) (below_alloc _ _)) hb)
        have r_X0_6 := Lib.hid (rdb_b (rdb_b (r_X0_5.out) (below_alloc _ _)) hb)
        have r_Z0_6 := Lib.hid (rdb_b (rdb_b (r_Z0_5.out) (below_alloc _ _)) hb)
        have r_Z1_6 := Lib.hid (rdb_b (rdb_b (r_Z1_5.out) (below_alloc _ _)) hb)
        have T_6 := Lib.hid (below_trans (below_trans (T_5.out) (below_alloc _ _)) hb)
        have z_6 : w5.heap.size + 1 ≤ w6.heap.size := (by have := hb.size; (try simp at this); omega)
        have ac_C0_6 := fun o => cell_b (c_C0_6) (below_alloc _ o)
        have bc_C0_6 := fun o o1 => cell_b (ac_C0_6 o) (below_alloc _ o1)
        have ac_C1_6 := fun o => cell_b (c_C1_6) (below_alloc _ o)
        have bc_C1_6 := fun o o1 => cell_b (ac_C1_6 o) (below_alloc _ o1)
        have ac_X0_6 := fun o => cell_b (c_X0_6) (below_alloc _ o)
        have bc_X0_6 := fun o o1 => cell_b (ac_X0_6 o) (below_alloc _ o1)
        have ac_X1_6 := fun o => cell_b (c_X1_6) (below_alloc _ o)
        have bc_X1_6 := fun o o1 => cell_b (ac_X1_6 o) (below_alloc _ o1)
        have ac_Q0_6 := fun o => cell_b (c_Q0_6) (below_alloc _ o)
        have bc_Q0_6 := fun o o1 => cell_b (ac_Q0_6 o) (below_alloc _ o1)
        have ac_Z0_6 := fun o => cell_b (c_Z0_6) (below_alloc _ o)
        have bc_Z0_6 := fun o o1 => cell_b (ac_Z0_6 o) (below_alloc _ o1)
        have ac_Z1_6 := fun o => cell_b (c_Z1_6) (below_alloc _ o)
        have bc_Z1_6 := fun o o1 => cell_b (ac_Z1_6 o) (below_alloc _ o1)
        have af_C0_6 := fun o => frz_b (cell_lt (c_C0_6)) (f_C0_6) (below_alloc _ o)
        have bf_C0_6 := fun o o1 => frz_b (cell_lt (ac_C0_6 o)) (af_C0_6 o) (below_alloc _ o1)
        have af_C1_6 := fun o => frz_b (cell_lt (c_C1_6)) (f_C1_6) (below_alloc _ o)
        have bf_C1_6 := fun o o1 => frz_b (cell_lt (ac_C1_6 o)) (af_C1_6 o) (below_alloc _ o1)
        clear hb c_C0_5 c_C1_5 c_X0_5 c_X1_5 c_Q0_5 f_C0_5 f_C1_5 r_c_5 r_X0_5 r_Z0_5 r_Z1_5 T_5 ac_C0_5 bc_C0_5 ac_C1_5 bc_C1_5 ac_X0_5 bc_X0_5 ac_X1_5 bc_X1_5 af_C0_5 bf_C0_5 af_C1_5 bf_C1_5
        go_wp2_with fail
        (with_reducible refine (I_GroupSame_q _ (0) (0) _ (([] : List Int)) _ (([] : List Int)) true (rdb_rd (r_Z0_6.out)) (rd_nil _) (by first | omega | (simp; done) | (simp; omega)) (by first | omega | (simp; done) | (simp; omega)) (by simp [eqB_self])).mono ?_)
        rintro e w7 ⟨rfl, hb⟩
        have c_C0_7 := cell_b (c_C0_6) hb
        have c_C1_7 := cell_b (c_C1_6) hb
        have c_X0_7 := cell_b (c_X0_6) hb
        have c_X1_7 := cell_b (c_X1_6) hb
        have c_Q0_7 := cell_b (c_Q0_6) hb
        have c_Z0_7 := cell_b (c_Z0_6) hb
        have c_Z1_7 := cell_b (c_Z1_6) hb
        have f_C0_7 := frz_b (cell_lt (c_C0_6)) (f_C0_6) hb
        have f_C1_7 := frz_b (cell_lt (c_C1_6)) (f_C1_6) hb
        have r_c_7 := Lib.hid (rdb_b (r_c_6.out) hb)
        have r_X0_7 := Lib.hid (rdb_b (r_X0_6.out) hb)
        have r_Z0_7 := Lib.hid (rdb_b (r_Z0_6.out) hb)
        have r_Z1_7 := Lib.hid (rdb_b (r_Z1_6.out) hb)
        have T_7 := Lib.hid (below_trans (T_6.out) hb)
        have z_7 : w6.heap.size ≤ w7.heap.size := (by have := hb.size; (try simp at this); omega)
        have ac_C0_7 := fun o => cell_b (c_C0_7) (below_alloc _ o)
        have bc_C0_7 := fun o o1 => cell_b (ac_C0_7 o) (below_alloc _ o1)
        have ac_C1_7 := fun o => cell_b (c_C1_7) (below_alloc _ o)
        have bc_C1_7 := fun o o1 => cell_b (ac_C1_7 o) (below_alloc _ o1)
        have ac_X0_7 := fun o => cell_b (c_X0_7) (below_alloc _ o)
        have bc_X0_7 := fun o o1 => cell_b (ac_X0_7 o) (below_alloc _ o1)
        have ac_X1_7 := fun o => cell_b (c_X1_7) (below_alloc _ o)
        have bc_X1_7 := fun o o1 => cell_b (ac_X1_7 o) (below_alloc _ o1)
        have ac_Q0_7 := fun o => cell_b (c_Q0_7) (below_alloc _ o)
        have bc_Q0_7 := fun o o1 => cell_b (ac_Q0_7 o) (below_alloc _ o1)
        have ac_Z0_7 := fun o => cell_b (c_Z0_7) (below_alloc _ o)
        have bc_Z0_7 := fun o o1 => cell_b (ac_Z0_7 o) (below_alloc _ o1)
        have ac_Z1_7 := fun o => cell_b (c_Z1_7) (below_alloc _ o)
        have bc_Z1_7 := fun o o1 => cell_b (ac_Z1_7 o) (below_alloc _ o1)
        have af_C0_7 := fun o => frz_b (cell_lt (c_C0_7)) (f_C0_7) (below_alloc _ o)
        have bf_C0_7 := fun o o1 => frz_b (cell_lt (ac_C0_7 o)) (af_C0_7 o) (below_alloc _ o1)
        have af_C1_7 := fun o => frz_b (cell_lt (c_C1_7)) (f_C1_7) (below_alloc _ o)
        have bf_C1_7 := fun o o1 => frz_b (cell_lt (ac_C1_7 o)) (af_C1_7 o) (below_alloc _ o1)
        clear hb c_C0_6 c_C1_6 c_X0_6 c_X1_6 c_Q0_6 c_Z0_6 c_Z1_6 f_C0_6 f_C1_6 r_c_6 r_X0_6 r_Z0_6 r_Z1_6 T_6 ac_C0_6 bc_C0_6 ac_C1_6 bc_C1_6 ac_X0_6 bc_X0_6 ac_X1_6 bc_X1_6 ac_Q0_6 bc_Q0_6 ac_Z0_6 bc_Z0_6 ac_Z1_6 bc_Z1_6 af_C0_6 bf_C0_6 af_C1_6 bf_C1_6
        go_wp2_with fail
        go_ret
        exact ⟨rfl, (T_7.out)⟩
    · have HV1 : Hid (wgOk c xs t = false) := Lib.hid (by simpa using hok)
      clear hok
      have HT1 : Hid (wg c xs t = (0, ([] : List Int), false, false)) := Lib.hid (by rw [wg_eq, if_neg (by rw [HV1.out]; simp)])
      have HQ2 : Hid ((wg c xs t).1 = 0) := Lib.hid (by rw [HT1.out])
      have HQ3 : Hid ((wg c xs t).2.1 = ([] : List Int)) := Lib.hid (by rw [HT1.out])
      have HQ4 : Hid ((wg c xs t).2.2.1 = false) := Lib.hid (by rw [HT1.out])
      have HQ5 : Hid ((wg c xs t).2.2.2 = false) := Lib.hid (by rw [HT1.out])
      go_wp2_with fail
      (with_reducible refine (I_WaitGroup_q _ (c) _ (xs) (t) (0) (([] : List Int)) (false) (false) (0) (rdb_rd (rdb_b (r_c_1.out) (below_alloc _ _))) (by first | omega | (simp; done) | (simp; omega)) HQ2.out HQ3.out HQ4.out HQ5.out rfl).mono ?_)
      rintro e w2 ⟨aX0, cX0, rfl, hX0, hb⟩
      have c_C0_2 := cell_b (p := ⟨w1.heap.size, 0, none⟩) (v := .int .i64 c) (by simp) hb
      have f_C0_2 := frz_b (p := ⟨w1.heap.size, 0, none⟩) (by first | omega | (simp; done) | (simp; omega)) (show _ = false by simp) hb
      have c_C1_2 := cell_b (p := ⟨w1.heap.size, 1, none⟩) (v := .slice a1 xs.length c1) (by simp) hb
      have f_C1_2 := frz_b (p := ⟨w1.heap.size, 1, none⟩) (by first | omega | (simp; done) | (simp; omega)) (show _ = false by simp) hb
      have r_c_2 := Lib.hid (rdb_b (rdb_b (r_c_1.out) (below_alloc _ _)) hb)
      have T_2 := Lib.hid (below_trans (below_trans (T_1.out) (below_alloc _ _)) hb)
      have z_2 : w1.heap.size + 1 ≤ w2.heap.size := (by have := hb.size; (try simp at this); omega)
      have r_X0_2 := Lib.hid (rdb_mono hX0 (show w1.heap.size + 1 ≤ _ by first | omega | (simp; done) | (simp; omega)))
      have lr_X0 := Lib.hid (rdb_lo r_X0_2.out)
      have hr_X0 := Lib.hid (rdb_hi r_X0_2.out)
      have ac_C0_2 := fun o => cell_b (c_C0_2) (below_alloc _ o)
      have bc_C0_2 := fun o o1 => cell_b (ac_C0_2 o) (below_alloc _ o1)
      have ac_C1_2 := fun o => cell_b (c_C1_2) (below_alloc _ o)
      have bc_C1_2 := fun o o1 => cell_b (ac_C1_2 o) (below_alloc _ o1)
      have af_C0_2 := fun o => frz_b (cell_lt (c_C0_2)) (f_C0_2) (below_alloc _ o)
      have bf_C0_2 := fun o o1 => frz_b (cell_lt (ac_C0_2 o)) (af_C0_2 o) (below_alloc _ o1)
      have af_C1_2 := fun o => frz_b (cell_lt (c_C1_2)) (f_C1_2) (below_alloc _ o)
      have bf_C1_2 := fun o o1 => frz_b (cell_lt (ac_C1_2 o)) (af_C1_2 o) (below_alloc _ o1)
      clear hb r_c_1 T_1 hX0
      go_wp2_with fail
      (with_reducible refine (S_WaitGroup_q _ (c) _ (xs) (t) (0) (([] : List Int)) (false) (false) (0) (rdb_rd (rdb_b (r_c_2.out) (below_alloc _ _))) (by first | omega | (simp; done) | (simp; omega)) HQ2.out HQ3.out HQ4.out HQ5.out rfl).mono ?_)
      rintro e w3 ⟨aY0, cY0, rfl, hY0, hb⟩
      have c_C0_3 := cell_b (cell_b (c_C0_2) (below_alloc _ _)) hb
      have c_C1_3 := cell_b (cell_b (c_C1_2) (below_alloc _ _)) hb
      have f_C0_3 := frz_b (cell_lt (cell_b (c_C0_2) (below_alloc _ _))) (frz_b (cell_lt (c_C0_2)) (f_C0_2) (below_alloc _ _)) hb
      have f_C1_3 := frz_b (cell_lt (cell_b (c_C1_2) (below_alloc _ _))) (frz_b (cell_lt (c_C1_2)) (f_C1_2) (below_alloc _ _)) hb
      have c_X0_3 := cell_b (p := ⟨w2.heap.size, 0, none⟩) (v := .int .i64 (0)) (by simp) hb
      have c_X1_3 := cell_b (p := ⟨w2.heap.size, 1, none⟩) (v := .slice aX0 (0) cX0) (by simp) hb
      have r_c_3 := Lib.hid (rdb_b (rdb_b (r_c_2.out) (below_alloc _ _)) hb)
      have r_X0_3 := Lib.hid (rdb_b (rdb_b (r_X0_2.out) (below_alloc _ _)) hb)
      have T_3 := Lib.hid (below_trans (below_trans (T_2.out) (below_alloc _ _)) hb)
      have z_3 : w2.heap.size + 1 ≤ w3.heap.size := (by have := hb.size; (try simp at this); omega)
      have r_Y0_3 := Lib.hid (rdb_mono hY0 (show w2.heap.size + 1 ≤ _ by first | omega | (simp; done) | (simp; omega)))
      have lr_Y0 := Lib.hid (rdb_lo r_Y0_3.out)
      have hr_Y0 := Lib.hid (rdb_hi r_Y0_3.out)
      have ac_C0_3 := fun o => cell_b (c_C0_3) (below_alloc _ o)
      have bc_C0_3 := fun o o1 => cell_b (ac_C0_3 o) (below_alloc _ o1)
      have ac_C1_3 := fun o => cell_b (c_C1_3) (below_alloc _ o)
      have bc_C1_3 := fun o o1 => cell_b (ac_C1_3 o) (below_alloc _ o1)
      have ac_X0_3 := fun o => cell_b (c_X0_3) (below_alloc _ o)
      have bc_X0_3 := fun o o1 => cell_b (ac_X0_3 o) (below_alloc _ o1)
      have ac_X1_3 := fun o => cell_b (c_X1_3) (below_alloc _ o)
      have bc_X1_3 := fun o o1 => cell_b (ac_X1_3 o) (below_alloc _ o1)
      have af_C0_3 := fun o => frz_b (cell_lt (c_C0_3)) (f_C0_3) (below_alloc _ o)
      have bf_C0_3 := fun o o1 => frz_b (cell_lt (ac_C0_3 o)) (af_C0_3 o) (below_alloc _ o1)
      have af_C1_3 := fun o => frz_b (cell_lt (c_C1_3)) (f_C1_3) (below_alloc _ o)
      have bf_C1_3 := fun o o1 => frz_b (cell_lt (ac_C1_3 o)) (af_C1_3 o) (below_alloc _ o1)
      clear hb c_C0_2 c_C1_2 f_C0_2 f_C1_2 r_c_2 r_X0_2 T_2 ac_C0_2 bc_C0_2 ac_C1_2 bc_C1_2 af_C0_2 bf_C0_2 af_C1_2 bf_C1_2 hY0
      go_wp2_with fail
      (with_reducible refine (I_GroupSame_q _ (0) (0) _ (([] : List Int)) _ (([] : List Int)) true (rdb_rd (rdb_b (r_X0_3.out) (below_alloc _ _))) (rdb_rd (rdb_b (r_Y0_3.out) (below_alloc _ _))) (by first | omega | (simp; done) | (simp; omega)) (by first | omega | (simp; done) | (simp; omega)) (by simp [eqB_self])).mono ?_)
      rintro e w4 ⟨rfl, hb⟩
      have c_C0_4 := cell_b (cell_b (c_C0_3) (below_alloc _ _)) hb
      have c_C1_4 := cell_b (cell_b (c_C1_3) (below_alloc _ _)) hb
      have c_X0_4 := cell_b (cell_b (c_X0_3) (below_alloc _ _)) hb
      have c_X1_4 := cell_b (cell_b (c_X1_3) (below_alloc _ _)) hb
      have f_C0_4 := frz_b (cell_lt (cell_b (c_C0_3) (below_alloc _ _))) (frz_b (cell_lt (c_C0_3)) (f_C0_3) (below_alloc _ _)) hb
      have f_C1_4 := frz_b (cell_lt (cell_b (c_C1_3) (below_alloc _ _))) (frz_b (cell_lt (c_C1_3)) (f_C1_3) (below_alloc _ _)) hb
      have c_Y0_4 := cell_b (p := ⟨w3.heap.size, 0, none⟩) (v := .int .i64 (0)) (by simp) hb
      have c_Y1_4 := cell_b (p := ⟨w3.heap.size, 1, none⟩) (v := .slice aY0 (0) cY0) (by simp) hb
      have r_c_4 := Lib.hid (rdb_b (rdb_b (r_c_3.out) (below_alloc _ _)) hb)
      have r_X0_4 := Lib.hid (rdb_b (rdb_b (r_X0_3.out) (below_alloc _ _)) hb)
      have r_Y0_4 := Lib.hid (rdb_b (rdb_b (r_Y0_3.out) (below_alloc _ _)) hb)
      have T_4 := Lib.hid (below_trans (below_trans (T_3.out) (below_alloc _ _)) hb)
      have z_4 : w3.heap.size + 1 ≤ w4.heap.size := (by have := hb.size; (try simp at this); omega)
      have ac_C0_4 := fun o => cell_b (c_C0_4) (below_alloc _ o)
      have bc_C0_4 := fun o o1 => cell_b (ac_C0_4 o) (below_alloc _ o1)
      have ac_C1_4 := fun o => cell_b (c_C1_4) (below_alloc _ o)
      have bc_C1_4 := fun o o1 => cell_b (ac_C1_4 o) (below_alloc _ o1)
      have ac_X0_4 := fun o => cell_b (c_X0_4) (below_alloc _ o)
      have bc_X0_4 := fun o o1 => cell_b (ac_X0_4 o) (below_alloc _ o1)
      have ac_X1_4 := fun o => cell_b (c_X1_4) (below_alloc _ o)
      have bc_X1_4 := fun o o1 => cell_b (ac_X1_4 o) (below_alloc _ o1)
      have ac_Y0_4 := fun o => cell_b (c_Y0_4) (below_alloc _ o)
      have bc_Y0_4 := fun o o1 => cell_b (ac_Y0_4 o) (below_alloc _ o1)
      have ac_Y1_4 := fun o => cell_b (c_Y1_4) (below_alloc _ o)
      have bc_Y1_4 := fun o o1 => cell_b (ac_Y1_4 o) (below_alloc _ o1)
      have af_C0_4 := fun o => frz_b (cell_lt (c_C0_4)) (f_C0_4) (below_alloc _ o)
      have bf_C0_4 := fun o o1 => frz_b (cell_lt (ac_C0_4 o)) (af_C0_4 o) (below_alloc _ o1)
      have af_C1_4 := fun o => frz_b (cell_lt (c_C1_4)) (f_C1_4) (below_alloc _ o)
      have bf_C1_4 := fun o o1 => frz_b (cell_lt (ac_C1_4 o)) (af_C1_4 o) (below_alloc _ o1)
      clear hb c_C0_3 c_C1_3 c_X0_3 c_X1_3 f_C0_3 f_C1_3 r_c_3 r_X0_3 r_Y0_3 T_3 ac_C0_3 bc_C0_3 ac_C1_3 bc_C1_3 ac_X0_3 bc_X0_3 ac_X1_3 bc_X1_3 af_C0_3 bf_C0_3 af_C1_3 bf_C1_3
      go_wp2_with fail
      (with_reducible refine (I_GroupSame_q _ (0) (0) _ (([] : List Int)) _ (([] : List Int)) true (rdb_rd (r_X0_4.out)) (rdb_rd (r_Y0_4.out)) (by first | omega | (simp; done) | (simp; omega)) (by first | omega | (simp; done) | (simp; omega)) (by simp [eqB_self])).mono ?_)
      rintro e w5 ⟨rfl, hb⟩
      have c_C0_5 := cell_b (c_C0_4) hb
      have c_C1_5 := cell_b (c_C1_4) hb
      have c_X0_5 := cell_b (c_X0_4) hb
      have c_X1_5 := cell_b (c_X1_4) hb
      have c_Y0_5 := cell_b (c_Y0_4) hb
      have c_Y1_5 := cell_b (c_Y1_4) hb
      have f_C0_5 := frz_b (cell_lt (c_C0_4)) (f_C0_4) hb
      have f_C1_5 := frz_b (cell_lt (c_C1_4)) (f_C1_4) hb
      have r_c_5 := Lib.hid (rdb_b (r_c_4.out) hb)
      have r_X0_5 := Lib.hid (rdb_b (r_X0_4.out) hb)
      have r_Y0_5 := Lib.hid (rdb_b (r_Y0_4.out) hb)
      have T_5 := Lib.hid (below_trans (T_4.out) hb)
      have z_5 : w4.heap.size ≤ w5.heap.size := (by have := hb.size; (try simp at this); omega)
      have ac_C0_5 := fun o => cell_b (c_C0_5) (below_alloc _ o)
      have bc_C0_5 := fun o o1 => cell_b (ac_C0_5 o) (below_alloc _ o1)
      have ac_C1_5 := fun o => cell_b (c_C1_5) (below_alloc _ o)
      have bc_C1_5 := fun o o1 => cell_b (ac_C1_5 o) (below_alloc _ o1)
      have ac_X0_5 := fun o => cell_b (c_X0_5) (below_alloc _ o)
      have bc_X0_5 := fun o o1 => cell_b (ac_X0_5 o) (below_alloc _ o1)
      have ac_X1_5 := fun o => cell_b (c_X1_5) (below_alloc _ o)
      have bc_X1_5 := fun o o1 => cell_b (ac_X1_5 o) (below_alloc _ o1)
      have ac_Y0_5 := fun o => cell_b (c_Y0_5) (below_alloc _ o)
      have bc_Y0_5 := fun o o1 => cell_b (ac_Y0_5 o) (below_alloc _ o1)
      have ac_Y1_5 := fun o => cell_b (c_Y1_5) (below_alloc _ o)
      have bc_Y1_5 := fun o o1 => cell_b (ac_Y1_5 o) (below_alloc _ o1)
      have af_C0_5 := fun o => frz_b (cell_lt (c_C0_5)) (f_C0_5) (below_alloc _ o)
      have bf_C0_5 := fun o o1 => frz_b (cell_lt (ac_C0_5 o)) (af_C0_5 o) (below_alloc _ o1)
      have af_C1_5 := fun o => frz_b (cell_lt (c_C1_5)) (f_C1_5) (below_alloc _ o)
      have bf_C1_5 := fun o o1 => frz_b (cell_lt (ac_C1_5 o)) (af_C1_5 o) (below_alloc _ o1)
      clear hb c_C0_4 c_C1_4 c_X0_4 c_X1_4 c_Y0_4 c_Y1_4 f_C0_4 f_C1_4 r_c_4 r_X0_4 r_Y0_4 T_4 ac_C0_4 bc_C0_4 ac_C1_4 bc_C1_4 ac_X0_4 bc_X0_4 ac_X1_4 bc_X1_4 ac_Y0_4 bc_Y0_4 ac_Y1_4 bc_Y1_4 af_C0_4 bf_C0_4 af_C1_4 bf_C1_4
      go_wp2_with fail
      go_ret
      exact ⟨rfl, (T_5.out)⟩
end Go.Proofs.Ytgdhbhgkfcgjdaa
