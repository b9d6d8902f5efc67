/- The law FnGroupTwo: the walk. -/
import Derived.Test.YtgdhbhgkfcgjdaaCodeGroup
import Derived.Test.YtgdhbhgkfcgjdaaPlainGroup
import Derived.Deep.RegionHeld3
import Derived.Deep.DrawnRows
namespace Go.Proofs.Ytgdhbhgkfcgjdaa
open Go.RowKit
attribute [local go_sem ↓] Go.wp_at_zero Go.wp_at_succ
set_option maxHeartbeats 4000000 in
set_option maxRecDepth 100000 in
theorem W_FnGroupTwo (w : World) (v : Value) (n : Nat) (hv : RdY w v n) (hm : n ≤ 9223372036854775807) :
    Calls Try.prog 8 #[v] w fun e w' => e = .returned (.bool true) ∧ Below w.heap.size w w' := by
  have HV := Lib.hid hv
  obtain ⟨a, cap, rfl, hcap, hnc, hr⟩ := hv
  clear hr hnc
  by_cases hbig : 1048576 < n
  · go_enter Try.func8, Try.ntmps8
    go_wp2
    go_ret
    exact ⟨rfl, Below.refl _ _⟩
  · go_enter Try.func8, Try.ntmps8
    have T_0 : Hid (Below w.heap.size w w) := Lib.hid (Below.refl _ _)
    go_wp2_with fail
    (with_reducible refine (S_DrawAddGroup _ _ n HV.out (by omega)).mono ?_)
    rintro e w1 ⟨c, xs, t, a1, c1, rfl, hx, hd, hb⟩
    have T_1 := Lib.hid (below_trans (T_0.out) hb)
    have z_1 : w.heap.size ≤ w1.heap.size := (by have := hb.size; (try simp at this); omega)
    have r_c_1 := Lib.hid (rdb_mono hd (show w.heap.size ≤ _ by first | omega | (simp; done) | (simp; omega)))
    have lr_c := Lib.hid (rdb_lo r_c_1.out)
    have hr_c := Lib.hid (rdb_hi r_c_1.out)
    clear hb T_0 hd
    by_cases hok : addOk c xs t = true
    · by_cases hneg : t < 0
      · by_cases hz : c + t = 0
        · have HV1 := Lib.hid hok
          obtain ⟨hc0, hc1, ht0, ht1, hs0, hs1, hxl⟩ := addOk_in hok
          have HZ := Lib.hid hz
          clear hz
          have HT1 : Hid (addG (c) xs (t) = (0, ([] : List Int), xs, true)) := Lib.hid (by rw [addG_eq, if_pos HV1.out, if_pos HZ.out])
          have HQ2 : Hid ((addG (c) xs (t)).1 = 0) := Lib.hid (by rw [HT1.out])
          have HQ3 : Hid ((addG (c) xs (t)).2.1 = ([] : List Int)) := Lib.hid (by rw [HT1.out])
          have HQ4 : Hid ((addG (c) xs (t)).2.2.1 = xs) := Lib.hid (by rw [HT1.out])
          have HQ5 : Hid ((addG (c) xs (t)).2.2.2 = true) := Lib.hid (by rw [HT1.out])
          go_wp2_with fail
          (with_reducible refine (I_AddGroup_q _ (c) _ (xs) (t) (0) (([] : List Int)) (xs) (true) (0) ((xs).length) (rdb_rd (rdb_b (r_c_1.out) (below_alloc _ _))) (by first | omega | (simp; done) | (simp; omega)) HQ2.out HQ3.out HQ4.out HQ5.out rfl rfl).mono ?_)
          rintro e w2 ⟨aX0, cX0, aX1, cX1, rfl, hX0, hX1, hb⟩
          have c_C0_2 := cell_b (p := ⟨w1.heap.size, 0, none⟩) (v := .int .i64 c) (by simp) hb
          have f_C0_2 := frz_b (p := ⟨w1.heap.size, 0, none⟩) (by first | omega | (simp; done) | (simp; omega)) (show _ = false by simp) hb
          have c_C1_2 := cell_b (p := ⟨w1.heap.size, 1, none⟩) (v := .slice a1 xs.length c1) (by simp) hb
          have f_C1_2 := frz_b (p := ⟨w1.heap.size, 1, none⟩) (by first | omega | (simp; done) | (simp; omega)) (show _ = false by simp) hb
          have r_c_2 := Lib.hid (rdb_b (rdb_b (r_c_1.out) (below_alloc _ _)) hb)
          have T_2 := Lib.hid (below_trans (below_trans (T_1.out) (below_alloc _ _)) hb)
          have z_2 : w1.heap.size + 1 ≤ w2.heap.size := (by have := hb.size; (try simp at this); omega)
          have r_X0_2 := Lib.hid (rdb_mono hX0 (show w1.heap.size + 1 ≤ _ by first | omega | (simp; done) | (simp; omega)))
          have lr_X0 := Lib.hid (rdb_lo r_X0_2.out)
          have hr_X0 := Lib.hid (rdb_hi r_X0_2.out)
          have r_X1_2 := Lib.hid (rdb_mono hX1 (show w1.heap.size + 1 ≤ _ by first | omega | (simp; done) | (simp; omega)))
          have lr_X1 := Lib.hid (rdb_lo r_X1_2.out)
          have hr_X1 := Lib.hid (rdb_hi r_X1_2.out)
          have ac_C0_2 := fun o => cell_b (c_C0_2) (below_alloc _ o)
          have bc_C0_2 := fun o o1 => cell_b (ac_C0_2 o) (below_alloc _ o1)
          have ac_C1_2 := fun o => cell_b (c_C1_2) (below_alloc _ o)
          have bc_C1_2 := fun o o1 => cell_b (ac_C1_2 o) (below_alloc _ o1)
          have af_C0_2 := fun o => frz_b (cell_lt (c_C0_2)) (f_C0_2) (below_alloc _ o)
          have bf_C0_2 := fun o o1 => frz_b (cell_lt (ac_C0_2 o)) (af_C0_2 o) (below_alloc _ o1)
          have af_C1_2 := fun o => frz_b (cell_lt (c_C1_2)) (f_C1_2) (below_alloc _ o)
          have bf_C1_2 := fun o o1 => frz_b (cell_lt (ac_C1_2 o)) (af_C1_2 o) (below_alloc _ o1)
          clear hb r_c_1 T_1 hX0 hX1
          go_wp2_with fail
          (with_reducible refine (S_AddGroup_q _ (c) _ (xs) (t) (0) (([] : List Int)) (xs) (true) (0) ((xs).length) (rdb_rd (rdb_b (r_c_2.out) (below_alloc _ _))) (by first | omega | (simp; done) | (simp; omega)) HQ2.out HQ3.out HQ4.out HQ5.out rfl rfl).mono ?_)
          rintro e w3 ⟨aY0, cY0, aY1, cY1, rfl, hY0, hY1, hb⟩
          have c_C0_3 := cell_b (cell_b (c_C0_2) (below_alloc _ _)) hb
          have c_C1_3 := cell_b (cell_b (c_C1_2) (below_alloc _ _)) hb
          have f_C0_3 := frz_b (cell_lt (cell_b (c_C0_2) (below_alloc _ _))) (frz_b (cell_lt (c_C0_2)) (f_C0_2) (below_alloc _ _)) hb
          have f_C1_3 := frz_b (cell_lt (cell_b (c_C1_2) (below_alloc _ _))) (frz_b (cell_lt (c_C1_2)) (f_C1_2) (below_alloc _ _)) hb
          have c_X0_3 := cell_b (p := ⟨w2.heap.size, 0, none⟩) (v := .int .i64 (0)) (by simp) hb
          have c_X1_3 := cell_b (p := ⟨w2.heap.size, 1, none⟩) (v := .slice aX0 (0) cX0) (by simp) hb
          have r_c_3 := Lib.hid (rdb_b (rdb_b (r_c_2.out) (below_alloc _ _)) hb)
          have r_X0_3 := Lib.hid (rdb_b (rdb_b (r_X0_2.out) (below_alloc _ _)) hb)
          have r_X1_3 := Lib.hid (rdb_b (rdb_b (r_X1_2.out) (below_alloc _ _)) hb)
          have T_3 := Lib.hid (below_trans (below_trans (T_2.out) (below_alloc _ _)) hb)
          have z_3 : w2.heap.size + 1 ≤ w3.heap.size := (by have := hb.size; (try simp at this); omega)
          have r_Y0_3 := Lib.hid (rdb_mono hY0 (show w2.heap.size + 1 ≤ _ by first | omega | (simp; done) | (simp; omega)))
          have lr_Y0 := Lib.hid (rdb_lo r_Y0_3.out)
          have hr_Y0 := Lib.hid (rdb_hi r_Y0_3.out)
          have r_Y1_3 := Lib.hid (rdb_mono hY1 (show w2.heap.size + 1 ≤ _ by first | omega | (simp; done) | (simp; omega)))
          have lr_Y1 := Lib.hid (rdb_lo r_Y1_3.out)
          have hr_Y1 := Lib.hid (rdb_hi r_Y1_3.out)
          have ac_C0_3 := fun o => cell_b (c_C0_3) (below_alloc _ o)
          have bc_C0_3 := fun o o1 => cell_b (ac_C0_3 o) (below_alloc _ o1)
          have ac_C1_3 := fun o => cell_b (c_C1_3) (below_alloc _ o)
          have bc_C1_3 := fun o o1 => cell_b (ac_C1_3 o) (below_alloc _ o1)
          have ac_X0_3 := fun o => cell_b (c_X0_3) (below_alloc _ o)
          have bc_X0_3 := fun o o1 => cell_b (ac_X0_3 o) (below_alloc _ o1)
          have ac_X1_3 := fun o => cell_b (c_X1_3) (below_alloc _ o)
          have bc_X1_3 := fun o o1 => cell_b (ac_X1_3 o) (below_alloc _ o1)
          have af_C0_3 := fun o => frz_b (cell_lt (c_C0_3)) (f_C0_3) (below_alloc _ o)
          have bf_C0_3 := fun o o1 => frz_b (cell_lt (ac_C0_3 o)) (af_C0_3 o) (below_alloc _ o1)
          have af_C1_3 := fun o => frz_b (cell_lt (c_C1_3)) (f_C1_3) (below_alloc _ o)
          have bf_C1_3 := fun o o1 => frz_b (cell_lt (ac_C1_3 o)) (af_C1_3 o) (below_alloc _ o1)
          clear hb c_C0_2 c_C1_2 f_C0_2 f_C1_2 r_c_2 r_X0_2 r_X1_2 T_2 ac_C0_2 bc_C0_2 ac_C1_2 bc_C1_2 af_C0_2 bf_C0_2 af_C1_2 bf_C1_2 hY0 hY1
          go_wp2_with fail
          (with_reducible refine (I_GroupSame_q _ (0) (0) _ (([] : List Int)) _ (([] : List Int)) true (rdb_rd (rdb_b (r_X0_3.out) (below_alloc _ _))) (rdb_rd (rdb_b (r_Y0_3.out) (below_alloc _ _))) (by first | omega | (simp; done) | (simp; omega)) (by first | omega | (simp; done) | (simp; omega)) (by simp [eqB_self])).mono ?_)
          rintro e w4 ⟨rfl, hb⟩
          have c_C0_4 := cell_b (cell_b (c_C0_3) (below_alloc _ _)) hb
          have c_C1_4 := cell_b (cell_b (c_C1_3) (below_alloc _ _)) hb
          have c_X0_4 := cell_b (cell_b (c_X0_3) (below_alloc _ _)) hb
          have c_X1_4 := cell_b (cell_b (c_X1_3) (below_alloc _ _)) hb
          have f_C0_4 := frz_b (cell_lt (cell_b (c_C0_3) (below_alloc _ _))) (frz_b (cell_lt (c_C0_3)) (f_C0_3) (below_alloc _ _)) hb
          have f_C1_4 := frz_b (cell_lt (cell_b (c_C1_3) (below_alloc _ _))) (frz_b (cell_lt (c_C1_3)) (f_C1_3) (below_alloc _ _)) hb
          have c_Y0_4 := cell_b (p := ⟨w3.heap.size, 0, none⟩) (v := .int .i64 (0)) (by simp) hb
          have c_Y1_4 := cell_b (p := ⟨w3.heap.size, 1, none⟩) (v := .slice aY0 (0) cY0) (by simp) hb
          have r_c_4 := Lib.hid (rdb_b (rdb_b (r_c_3.out) (below_alloc _ _)) hb)
          have r_X0_4 := Lib.hid (rdb_b (rdb_b (r_X0_3.out) (below_alloc _ _)) hb)
          have r_X1_4 := Lib.hid (rdb_b (rdb_b (r_X1_3.out) (below_alloc _ _)) hb)
          have r_Y0_4 := Lib.hid (rdb_b (rdb_b (r_Y0_3.out) (below_alloc _ _)) hb)
          have r_Y1_4 := Lib.hid (rdb_b (rdb_b (r_Y1_3.out) (below_alloc _ _)) hb)
          have T_4 := Lib.hid (below_trans (below_trans (T_3.out) (below_alloc _ _)) hb)
          have z_4 : w3.heap.size + 1 ≤ w4.heap.size := (by have := hb.size; (try simp at this); omega)
          have ac_C0_4 := fun o => cell_b (c_C0_4) (below_alloc _ o)
          have bc_C0_4 := fun o o1 => cell_b (ac_C0_4 o) (below_alloc _ o1)
          have ac_C1_4 := fun o => cell_b (c_C1_4) (below_alloc _ o)
          have bc_C1_4 := fun o o1 => cell_b (ac_C1_4 o) (below_alloc _ o1)
          have ac_X0_4 := fun o => cell_b (c_X0_4) (below_alloc _ o)
          have bc_X0_4 := fun o o1 => cell_b (ac_X0_4 o) (below_alloc _ o1)
          have ac_X1_4 := fun o => cell_b (c_X1_4) (below_alloc _ o)
          have bc_X1_4 := fun o o1 => cell_b (ac_X1_4 o) (below_alloc _ o1)
          have ac_Y0_4 := fun o => cell_b (c_Y0_4) (below_alloc _ o)
          have bc_Y0_4 := fun o o1 => cell_b (ac_Y0_4 o) (below_alloc _ o1)
          have ac_Y1_4 := fun o => cell_b (c_Y1_4) (below_alloc _ o)
          have bc_Y1_4 := fun o o1 => cell_b (ac_Y1_4 o) (below_alloc _ o1)
          have af_C0_4 := fun o => frz_b (cell_lt (c_C0_4)) (f_C0_4) (below_alloc _ o)
          have bf_C0_4 := fun o o1 => frz_b (cell_lt (ac_C0_4 o)) (af_C0_4 o) (below_alloc _ o1)
          have af_C1_4 := fun o => frz_b (cell_lt (c_C1_4)) (f_C1_4) (below_alloc _ o)
          have bf_C1_4 := fun o o1 => frz_b (cell_lt (ac_C1_4 o)) (af_C1_4 o) (below_alloc _ o1)
          clear hb c_C0_3 c_C1_3 c_X0_3 c_X1_3 f_C0_3 f_C1_3 r_c_3 r_X0_3 r_X1_3 r_Y0_3 r_Y1_3 T_3 ac_C0_3 bc_C0_3 ac_C1_3 bc_C1_3 ac_X0_3 bc_X0_3 ac_X1_3 bc_X1_3 af_C0_3 bf_C0_3 af_C1_3 bf_C1_3
          go_wp2_with fail
          (with_reducible refine (eqB_true (drew_b (L_wkInts _ _ _ (xs) (xs) (rdb_rd (r_X1_4.out)) (rdb_rd (r_Y1_4.out)) (by first | omega | (simp; done) | (simp; omega)) (by first | omega | (simp; done) | (simp; omega))))).mono ?_)
          rintro e w5 ⟨rfl, hb⟩
          have c_C0_5 := cell_b (c_C0_4) hb
          have c_C1_5 := cell_b (c_C1_4) hb
          have c_X0_5 := cell_b (c_X0_4) hb
          have c_X1_5 := cell_b (c_X1_4) hb
          have c_Y0_5 := cell_b (c_Y0_4) hb
          have c_Y1_5 := cell_b (c_Y1_4) hb
          have f_C0_5 := frz_b (cell_lt (c_C0_4)) (f_C0_4) hb
          have f_C1_5 := frz_b (cell_lt (c_C1_4)) (f_C1_4) hb
          have r_c_5 := Lib.hid (rdb_b (r_c_4.out) hb)
          have r_X0_5 := Lib.hid (rdb_b (r_X0_4.out) hb)
          have r_X1_5 := Lib.hid (rdb_b (r_X1_4.out) hb)
          have r_Y0_5 := Lib.hid (rdb_b (r_Y0_4.out) hb)
          have r_Y1_5 := Lib.hid (rdb_b (r_Y1_4.out) hb)
          have T_5 := Lib.hid (below_trans (T_4.out) hb)
          have z_5 : w4.heap.size ≤ w5.heap.size := (by have := hb.size; (try simp at this); omega)
          have ac_C0_5 := fun o => cell_b (c_C0_5) (below_alloc _ o)
          have bc_C0_5 := fun o o1 => cell_b (ac_C0_5 o) (below_alloc _ o1)
          have ac_C1_5 := fun o => cell_b (c_C1_5) (below_alloc _ o)
          have bc_C1_5 := fun o o1 => cell_b (ac_C1_5 o) (below_alloc _ o1)
          have ac_X0_5 := fun o => cell_b (c_X0_5) (below_alloc _ o)
          have bc_X0_5 := fun o o1 => cell_b (ac_X0_5 o) (below_alloc _ o1)
          have ac_X1_5 := fun o => cell_b (c_X1_5) (below_alloc _ o)
          have bc_X1_5 := fun o o1 => cell_b (ac_X1_5 o) (below_alloc _ o1)
          have ac_Y0_5 := fun o => cell_b (c_Y0_5) (below_alloc _ o)
          have bc_Y0_5 := fun o o1 => cell_b (ac_Y0_5 o) (below_alloc _ o1)
          have ac_Y1_5 := fun o => cell_b (c_Y1_5) (below_alloc _ o)
          have bc_Y1_5 := fun o o1 => cell_b (ac_Y1_5 o) (below_alloc _ o1)
          have af_C0_5 := fun o => frz_b (cell_lt (c_C0_5)) (f_C0_5) (below_alloc _ o)
          have bf_C0_5 := fun o o1 => frz_b (cell_lt (ac_C0_5 o)) (af_C0_5 o) (below_alloc _ o1)
          have af_C1_5 := fun o => frz_b (cell_lt (c_C1_5)) (f_C1_5) (below_alloc _ o)
          have bf_C1_5 := fun o o1 => frz_b (cell_lt (ac_C1_5 o)) (af_C1_5 o) (below_alloc _ o1)
          clear hb c_C0_4 c_C1_4 c_X0_4 c_X1_4 c_Y0_4 c_Y1_4 f_C0_4 f_C1_4 r_c_4 r_X0_4 r_X1_4 r_Y0_4 r_Y1_4 T_4 ac_C0_4 bc_C0_4 ac_C1_4 bc_C1_4 ac_X0_4 bc_X0_4 ac_X1_4 bc_X1_4 ac_Y0_4 bc_Y0_4 ac_Y1_4 bc_Y1_4 af_C0_4 bf_C0_4 af_C1_4 bf_C1_4
          go_wp2_with fail
          (with_reducible refine (I_GroupSame_q _ (0) (0) _ (([] : List Int)) _ (([] : List Int)) true (rdb_rd (r_X0_5.out)) (rdb_rd (r_Y0_5.out)) (by first | omega | (simp; done) | (simp; omega)) (by first | omega | (simp; done) | (simp; omega)) (by simp [eqB_self])).mono ?_)
          rintro e w6 ⟨rfl, hb⟩
          have c_C0_6 := cell_b (c_C0_5) hb
          have c_C1_6 := cell_b (c_C1_5) hb
          have c_X0_6 := cell_b (c_X0_5) hb
          have c_X1_6 := cell_b (c_X1_5) hb
          have c_Y0_6 := cell_b (c_Y0_5) hb
          have c_Y1_6 := cell_b (c_Y1_5) hb
          have f_C0_6 := frz_b (cell_lt (c_C0_5)) (f_C0_5) hb
          have f_C1_6 := frz_b (cell_lt (c_C1_5)) (f_C1_5) hb
          have r_c_6 := Lib.hid (rdb_b (r_c_5.out) hb)
          have r_X0_6 := Lib.hid (rdb_b (r_X0_5.out) hb)
          have r_X1_6 := Lib.hid (rdb_b (r_X1_5.out) hb)
          have r_Y0_6 := Lib.hid (rdb_b (r_Y0_5.out) hb)
          have r_Y1_6 := Lib.hid (rdb_b (r_Y1_5.out) hb)
          have T_6 := Lib.hid (below_trans (T_5.out) hb)
          have z_6 : w5.heap.size ≤ w6.heap.size := (by have := hb.size; (try simp at this); omega)
          have ac_C0_6 := fun o => cell_b (c_C0_6) (below_alloc _ o)
          have bc_C0_6 := fun o o1 => cell_b (ac_C0_6 o) (below_alloc _ o1)
          have ac_C1_6 := fun o => cell_b (c_C1_6) (below_alloc _ o)
          have bc_C1_6 := fun o o1 => cell_b (ac_C1_6 o) (below_alloc _ o1)
          have ac_X0_6 := fun o => cell_b (c_X0_6) (below_alloc _ o)
          have bc_X0_6 := fun o o1 => cell_b (ac_X0_6 o) (below_alloc _ o1)
          have ac_X1_6 := fun o => cell_b (c_X1_6) (below_alloc _ o)
          have bc_X1_6 := fun o o1 => cell_b (ac_X1_6 o) (below_alloc _ o1)
          have ac_Y0_6 := fun o => cell_b (c_Y0_6) (below_alloc _ o)
          have bc_Y0_6 := fun o o1 => cell_b (ac_Y0_6 o) (below_alloc _ o1)
          have ac_Y1_6 := fun o => cell_b (c_Y1_6) (below_alloc _ o)
          have bc_Y1_6 := fun o o1 => cell_b (ac_Y1_6 o) (below_alloc _ o1)
          have af_C0_6 := fun o => frz_b (cell_lt (c_C0_6)) (f_C0_6) (below_alloc _ o)
          have bf_C0_6 := fun o o1 => frz_b (cell_lt (ac_C0_6 o)) (af_C0_6 o) (below_alloc _ o1)
          have af_C1_6 := fun o => frz_b (cell_lt (c_C1_6)) (f_C1_6) (below_alloc _ o)
          have bf_C1_6 := fun o o1 => frz_b (cell_lt (ac_C1_6 o)) (af_C1_6 o) (below_alloc _ o1)
          clear hb c_C0_5 c_C1_5 c_X0_5 c_X1_5 c_Y0_5 c_Y1_5 f_C0_5 f_C1_5 r_c_5 r_X0_5 r_X1_5 r_Y0_5 r_Y1_5 T_5 ac_C0_5 bc_C0_5 ac_C1_5 bc_C1_5 ac_X0_5 bc_X0_5 ac_X1_5 bc_X1_5 ac_Y0_5 bc_Y0_5 ac_Y1_5 bc_Y1_5 af_C0_5 bf_C0_5 af_C1_5 bf_C1_5
          go_wp2_with fail
          (with_reducible refine (eqB_true (drew_b (L_wkInts _ _ _ (xs) (xs) (rdb_rd (r_X1_6.out)) (rdb_rd (r_Y1_6.out)) (by first | omega | (simp; done) | (simp; omega)) (by first | omega | (simp; done) | (simp; omega))))).mono ?_)
          rintro e w7 ⟨rfl, hb⟩
          have c_C0_7 := cell_b (c_C0_6) hb
          have c_C1_7 := cell_b (c_C1_6) hb
          have c_X0_7 := cell_b (c_X0_6) hb
          have c_X1_7 := cell_b (c_X1_6) hb
          have c_Y0_7 := cell_b (c_Y0_6) hb
          have c_Y1_7 := cell_b (c_Y1_6) hb
          have f_C0_7 := frz_b (cell_lt (c_C0_6)) (f_C0_6) hb
          have f_C1_7 := frz_b (cell_lt (c_C1_6)) (f_C1_6) hb
          have r_c_7 := Lib.hid (rdb_b (r_c_6.out) hb)
          have r_X0_7 := Lib.hid (rdb_b (r_X0_6.out) hb)
          have r_X1_7 := Lib.hid (rdb_b (r_X1_6.out) hb)
          have r_Y0_7 := Lib.hid (rdb_b (r_Y0_6.out) hb)
          have r_Y1_7 := Lib.hid (rdb_b (r_Y1_6.out) hb)
          have T_7 := Lib.hid (below_trans (T_6.out) hb)
          have z_7 : w6.heap.size ≤ w7.heap.size := (by have := hb.size; (try simp at this); omega)
          have ac_C0_7 := fun o => cell_b (c_C0_7) (below_alloc _ o)
          have bc_C0_7 := fun o o1 => cell_b (ac_C0_7 o) (below_alloc _ o1)
          have ac_C1_7 := fun o => cell_b (c_C1_7) (below_alloc _ o)
          have bc_C1_7 := fun o o1 => cell_b (ac_C1_7 o) (below_alloc _ o1)
          have ac_X0_7 := fun o => cell_b (c_X0_7) (below_alloc _ o)
          have bc_X0_7 := fun o o1 => cell_b (ac_X0_7 o) (below_alloc _ o1)
          have ac_X1_7 := fun o => cell_b (c_X1_7) (below_alloc _ o)
          have bc_X1_7 := fun o o1 => cell_b (ac_X1_7 o) (below_alloc _ o1)
          have ac_Y0_7 := fun o => cell_b (c_Y0_7) (below_alloc _ o)
          have bc_Y0_7 := fun o o1 => cell_b (ac_Y0_7 o) (below_alloc _ o1)
          have ac_Y1_7 := fun o => cell_b (c_Y1_7) (below_alloc _ o)
          have bc_Y1_7 := fun o o1 => cell_b (ac_Y1_7 o) (below_alloc _ o1)
          have af_C0_7 := fun o => frz_b (cell_lt (c_C0_7)) (f_C0_7) (below_alloc _ o)
          have bf_C0_7 := fun o o1 => frz_b (cell_lt (ac_C0_7 o)) (af_C0_7 o) (below_alloc _ o1)
          have af_C1_7 := fun o => frz_b (cell_lt (c_C1_7)) (f_C1_7) (below_alloc _ o)
          have bf_C1_7 := fun o o1 => frz_b (cell_lt (ac_C1_7 o)) (af_C1_7 o) (below_alloc _ o1)
          clear hb c_C0_6 c_C1_6 c_X0_6 c_X1_6 c_Y0_6 c_Y1_6 f_C0_6 f_C1_6 r_c_6 r_X0_6 r_X1_6 r_Y0_6 r_Y1_6 T_6 ac_C0_6 bc_C0_6 ac_C1_6 bc_C1_6 ac_X0_6 bc_X0_6 ac_X1_6 bc_X1_6 ac_Y0_6 bc_Y0_6 ac_Y1_6 bc_Y1_6 af_C0_6 bf_C0_6 af_C1_6 bf_C1_6
          go_wp2_with fail
          go_ret
          exact ⟨rfl, (T_7.out)⟩
        · have HV1 := Lib.hid hok
          obtain ⟨hc0, hc1, ht0, ht1, hs0, hs1, hxl⟩ := addOk_in hok
          have HT1 : Hid (addG (c) xs (t) = (c + t, xs, ([] : List Int), true)) := Lib.hid (by rw [addG_eq, if_pos HV1.out, if_neg hz])
          have HQ2 : Hid ((addG (c) xs (t)).1 = c + t) := Lib.hid (by rw [HT1.out])
          have HQ3 : Hid ((addG (c) xs (t)).2.1 = xs) := Lib.hid (by rw [HT1.out])
          have HQ4 : Hid ((addG (c) xs (t)).2.2.1 = ([] : List Int)) := Lib.hid (by rw [HT1.out])
          have HQ5 : Hid ((addG (c) xs (t)).2.2.2 = true) := Lib.hid (by rw [HT1.out])
          go_wp2_with fail
          (with_reducible refine (I_AddGroup_q _ (c) _ (xs) (t) (c + t) (xs) (([] : List Int)) (true) ((xs).length) (0) (rdb_rd (rdb_b (r_c_1.out) (below_alloc _ _))) (by first | omega | (simp; done) | (simp; omega)) HQ2.out HQ3.out HQ4.out HQ5.out rfl rfl).mono ?_)
          rintro e w2 ⟨aX0, cX0, aX1, cX1, rfl, hX0, hX1, hb⟩
          have c_C0_2 := cell_b (p := ⟨w1.heap.size, 0, none⟩) (v := .int .i64 c) (by simp) hb
          have f_C0_2 := frz_b (p := ⟨w1.heap.size, 0, none⟩) (by first | omega | (simp; done) | (simp; omega)) (show _ = false by simp) hb
          have c_C1_2 := cell_b (p := ⟨w1.heap.size, 1, none⟩) (v := .slice a1 xs.length c1) (by simp) hb
          have f_C1_2 := frz_b (p := ⟨w1.heap.size, 1, none⟩) (by first | omega | (simp; done) | (simp; omega)) (show _ = false by simp) hb
          have r_c_2 := Lib.hid (rdb_b (rdb_b (r_c_1.out) (below_alloc _ _)) hb)
          have T_2 := Lib.hid (below_trans (below_trans (T_1.out) (below_alloc _ _)) hb)
          have z_2 : w1.heap.size + 1 ≤ w2.heap.size := (by have := hb.size; (try simp at this); omega)
          have r_X0_2 := Lib.hid (rdb_mono hX0 (show w1.heap.size + 1 ≤ _ by first | omega | (simp; done) | (simp; omega)))
          have lr_X0 := Lib.hid (rdb_lo r_X0_2.out)
          have hr_X0 := Lib.hid (rdb_hi r_X0_2.out)
          have r_X1_2 := Lib.hid (rdb_mono hX1 (show w1.heap.size + 1 ≤ _ by first | omega | (simp; done) | (simp; omega)))
          have lr_X1 := Lib.hid (rdb_lo r_X1_2.out)
          have hr_X1 := Lib.hid (rdb_hi r_X1_2.out)
          have ac_C0_2 := fun o => cell_b (c_C0_2) (below_alloc _ o)
          have bc_C0_2 := fun o o1 => cell_b (ac_C0_2 o) (below_alloc _ o1)
          have ac_C1_2 := fun o => cell_b (c_C1_2) (below_alloc _ o)
          have bc_C1_2 := fun o o1 => cell_b (ac_C1_2 o) (below_alloc _ o1)
          have af_C0_2 := fun o => frz_b (cell_lt (c_C0_2)) (f_C0_2) (below_alloc _ o)
          have bf_C0_2 := fun o o1 => frz_b (cell_lt (ac_C0_2 o)) (af_C0_2 o) (below_alloc _ o1)
          have af_C1_2 := fun o => frz_b (cell_lt (c_C1_2)) (f_C1_2) (below_alloc _ o)
          have bf_C1_2 := fun o o1 => frz_b (cell_lt (ac_C1_2 o)) (af_C1_2 o) (below_alloc _ o1)
          clear hb r_c_1 T_1 hX0 hX1
          go_wp2_with fail
          (with_reducible refine (S_AddGroup_q _ (c) _ (xs) (t) (c + t) (xs) (([] : List Int)) (true) ((xs).length) (0) (rdb_rd (rdb_b (r_c_2.out) (below_alloc _ _))) (by first | omega | (simp; done) | (simp; omega)) HQ2.out HQ3.out HQ4.out HQ5.out rfl rfl).mono ?_)
          rintro e w3 ⟨aY0, cY0, aY1, cY1, rfl, hY0, hY1, hb⟩
          have c_C0_3 := cell_b (cell_b (c_C0_2) (below_alloc _ _)) hb
          have c_C1_3 := cell_b (cell_b (c_C1_2) (below_alloc _ _)) hb
          have f_C0_3 := frz_b (cell_lt (cell_b (c_C0_2) (below_alloc _ _))) (frz_b (cell_lt (c_C0_2)) (f_C0_2) (below_alloc _ _)) hb
          have f_C1_3 := frz_b (cell_lt (cell_b (c_C1_2) (below_alloc _ _))) (frz_b (cell_lt (c_C1_2)) (f_C1_2) (below_alloc _ _)) hb
          have c_X0_3 := cell_b (p := ⟨w2.heap.size, 0, none⟩) (v := .int .i64 (c + t)) (by simp) hb
          have c_X1_3 := cell_b (p := ⟨w2.heap.size, 1, none⟩) (v := .slice aX0 ((xs).length) cX0) (by simp) hb
          have r_c_3 := Lib.hid (rdb_b (rdb_b (r_c_2.out) (below_alloc _ _)) hb)
          have r_X0_3 := Lib.hid (rdb_b (rdb_b (r_X0_2.out) (below_alloc _ _)) hb)
          have r_X1_3 := Lib.hid (rdb_b (rdb_b (r_X1_2.out) (below_alloc _ _)) hb)
          have T_3 := Lib.hid (below_trans (below_trans (T_2.out) (below_alloc _ _)) hb)
          have z_3 : w2.heap.size + 1 ≤ w3.heap.size := (by have := hb.size; (try simp at this); omega)
          have r_Y0_3 := Lib.hid (rdb_mono hY0 (show w2.heap.size + 1 ≤ _ by first | omega | (simp; done) | (simp; omega)))
          have lr_Y0 := Lib.hid (rdb_lo r_Y0_3.out)
          have hr_Y0 := Lib.hid (rdb_hi r_Y0_3.out)
          have r_Y1_3 := Lib.hid (rdb_mono hY1 (show w2.heap.size + 1 ≤ _ by first | omega | (simp; done) | (simp; omega)))
          have lr_Y1 := Lib.hid (rdb_lo r_Y1_3.out)
          have hr_Y1 := Lib.hid (rdb_hi r_Y1_3.out)
          have ac_C0_3 := fun o => cell_b (c_C0_3) (below_alloc _ o)
          have bc_C0_3 := fun o o1 => cell_b (ac_C0_3 o) (below_alloc _ o1)
          have ac_C1_3 := fun o => cell_b (c_C1_3) (below_alloc _ o)
          have bc_C1_3 := fun o o1 => cell_b (ac_C1_3 o) (below_alloc _ o1)
          have ac_X0_3 := fun o => cell_b (c_X0_3) (below_alloc _ o)
          have bc_X0_3 := fun o o1 => cell_b (ac_X0_3 o) (below_alloc _ o1)
          have ac_X1_3 := fun o => cell_b (c_X1_3) (below_alloc _ o)
          have bc_X1_3 := fun o o1 => cell_b (ac_X1_3 o) (below_alloc _ o1)
          have af_C0_3 := fun o => frz_b (cell_lt (c_C0_3)) (f_C0_3) (below_alloc _ o)
          have bf_C0_3 := fun o o1 => frz_b (cell_lt (ac_C0_3 o)) (af_C0_3 o) (below_alloc _ o1)
          have af_C1_3 := fun o => frz_b (cell_lt (c_C1_3)) (f_C1_3) (below_alloc _ o)
          have bf_C1_3 := fun o o1 => frz_b (cell_lt (ac_C1_3 o)) (af_C1_3 o) (below_alloc _ o1)
          clear hb c_C0_2 c_C1_2 f_C0_2 f_C1_2 r_c_2 r_X0_2 r_X1_2 T_2 ac_C0_2 bc_C0_2 ac_C1_2 bc_C1_2 af_C0_2 bf_C0_2 af_C1_2 bf_C1_2 hY0 hY1
          go_wp2_with fail
          (with_reducible refine (I_GroupSame_q _ (c + t) (c + t) _ (xs) _ (xs) true (rdb_rd (rdb_b (r_X0_3.out) (below_alloc _ _))) (rdb_rd (rdb_b (r_Y0_3.out) (below_alloc _ _))) (by first | omega | (simp; done) | (simp; omega)) (by first | omega | (simp; done) | (simp; omega)) (by simp [eqB_self])).mono ?_)
          rintro e w4 ⟨rfl, hb⟩
          have c_C0_4 := cell_b (cell_b (c_C0_3) (below_alloc _ _)) hb
          have c_C1_4 := cell_b (cell_b (c_C1_3) (below_alloc _ _)) hb
          have c_X0_4 := cell_b (cell_b (c_X0_3) (below_alloc _ _)) hb
          have c_X1_4 := cell_b (cell_b (c_X1_3) (below_alloc _ _)) hb
          have f_C0_4 := frz_b (cell_lt (cell_b (c_C0_3) (below_alloc _ _))) (frz_b (cell_lt (c_C0_3)) (f_C0_3) (below_alloc _ _)) hb
          have f_C1_4 := frz_b (cell_lt (cell_b (c_C1_3) (below_alloc _ _))) (frz_b (cell_lt (c_C1_3)) (f_C1_3) (below_alloc _ _)) hb
          have c_Y0_4 := cell_b (p := ⟨w3.heap.size, 0, none⟩) (v := .int .i64 (c + t)) (by simp) hb
          have c_Y1_4 := cell_b (p := ⟨w3.heap.size, 1, none⟩) (v := .slice aY0 ((xs).length) cY0) (by simp) hb
          have r_c_4 := Lib.hid (rdb_b (rdb_b (r_c_3.out) (below_alloc _ _)) hb)
          have r_X0_4 := Lib.hid (rdb_b (rdb_b (r_X0_3.out) (below_alloc _ _)) hb)
          have r_X1_4 := Lib.hid (rdb_b (rdb_b (r_X1_3.out) (below_alloc _ _)) hb)
          have r_Y0_4 := Lib.hid (rdb_b (rdb_b (r_Y0_3.out) (below_alloc _ _)) hb)
          have r_Y1_4 := Lib.hid (rdb_b (rdb_b (r_Y1_3.out) (below_alloc _ _)) hb)
          have T_4 := Lib.hid (below_trans (below_trans (T_3.out) (below_alloc _ _)) hb)
          have z_4 : w3.heap.size + 1 ≤ w4.heap.size := (by have := hb.size; (try simp at this); omega)
          have ac_C0_4 := fun o => cell_b (c_C0_4) (below_alloc _ o)
          have bc_C0_4 := fun o o1 => cell_b (ac_C0_4 o) (below_alloc _ o1)
          have ac_C1_4 := fun o => cell_b (c_C1_4) (below_alloc _ o)
          have bc_C1_4 := fun o o1 => cell_b (ac_C1_4 o) (below_alloc _ o1)
          have ac_X0_4 := fun o => cell_b (c_X0_4) (below_alloc _ o)
          have bc_X0_4 := fun o o1 => cell_b (ac_X0_4 o) (below_alloc _ o1)
          have ac_X1_4 := fun o => cell_b (c_X1_4) (below_alloc _ o)
          have bc_X1_4 := fun o o1 => cell_b (ac_X1_4 o) (below_alloc _ o1)
          have ac_Y0_4 := fun o => cell_b (c_Y0_4) (below_alloc _ o)
          have bc_Y0_4 := fun o o1 => cell_b (ac_Y0_4 o) (below_alloc _ o1)
          have ac_Y1_4 := fun o => cell_b (c_Y1_4) (below_alloc _ o)
          have bc_Y1_4 := fun o o1 => cell_b (ac_Y1_4 o) (below_alloc _ o1)
          have af_C0_4 := fun o => frz_b (cell_lt (c_C0_4)) (f_C0_4) (below_alloc _ o)
          have bf_C0_4 := fun o o1 => frz_b (cell_lt (ac_C0_4 o)) (af_C0_4 o) (below_alloc _ o1)
          have af_C1_4 := fun o => frz_b (cell_lt (c_C1_4)) (f_C1_4) (below_alloc _ o)
          have bf_C1_4 := fun o o1 => frz_b (cell_lt (ac_C1_4 o)) (af_C1_4 o) (below_alloc _ o1)
          clear hb c_C0_3 c_C1_3 c_X0_3 c_X1_3 f_C0_3 f_C1_3 r_c_3 r_X0_3 r_X1_3 r_Y0_3 r_Y1_3 T_3 ac_C0_3 bc_C0_3 ac_C1_3 bc_C1_3 ac_X0_3 bc_X0_3 ac_X1_3 bc_X1_3 af_C0_3 bf_C0_3 af_C1_3 bf_C1_3
          go_wp2_with fail
          (with_reducible refine (eqB_true (drew_b (L_wkInts _ _ _ (([] : List Int)) (([] : List Int)) (rdb_rd (r_X1_4.out)) (rdb_rd (r_Y1_4.out)) (by first | omega | (simp; done) | (simp; omega)) (by first | omega | (simp; done) | (simp; omega))))).mono ?_)
          rintro e w5 ⟨rfl, hb⟩
          have c_C0_5 := cell_b (c_C0_4) hb
          have c_C1_5 := cell_b (c_C1_4) hb
          have c_X0_5 := cell_b (c_X0_4) hb
          have c_X1_5 := cell_b (c_X1_4) hb
          have c_Y0_5 := cell_b (c_Y0_4) hb
          have c_Y1_5 := cell_b (c_Y1_4) hb
          have f_C0_5 := frz_b (cell_lt (c_C0_4)) (f_C0_4) hb
          have f_C1_5 := frz_b (cell_lt (c_C1_4)) (f_C1_4) hb
          have r_c_5 := Lib.hid (rdb_b (r_c_4.out) hb)
          have r_X0_5 := Lib.hid (rdb_b (r_X0_4.out) hb)
          have r_X1_5 := Lib.hid (rdb_b (r_X1_4.out) hb)
          have r_Y0_5 := Lib.hid (rdb_b (r_Y0_4.out) hb)
          have r_Y1_5 := Lib.hid (rdb_b (r_Y1_4.out) hb)
          have T_5 := Lib.hid (below_trans (T_4.out) hb)
          have z_5 : w4.heap.size ≤ w5.heap.size := (by have := hb.size; (try simp at this); omega)
          have ac_C0_5 := fun o => cell_b (c_C0_5) (below_alloc _ o)
          have bc_C0_5 := fun o o1 => cell_b (ac_C0_5 o) (below_alloc _ o1)
          have ac_C1_5 := fun o => cell_b (c_C1_5) (below_alloc _ o)
          have bc_C1_5 := fun o o1 => cell_b (ac_C1_5 o) (below_alloc _ o1)
          have ac_X0_5 := fun o => cell_b (c_X0_5) (below_alloc _ o)
          have bc_X0_5 := fun o o1 => cell_b (ac_X0_5 o) (below_alloc _ o1)
          have ac_X1_5 := fun o => cell_b (c_X1_5) (below_alloc _ o)
          have bc_X1_5 := fun o o1 => cell_b (ac_X1_5 o) (below_alloc _ o1)
          have ac_Y0_5 := fun o => cell_b (c_Y0_5) (below_alloc _ o)
          have bc_Y0_5 := fun o o1 => cell_b (ac_Y0_5 o) (below_alloc _ o1)
          have ac_Y1_5 := fun o => cell_b (c_Y1_5) (below_alloc _ o)
          have bc_Y1_5 := fun o o1 => cell_b (ac_Y1_5 o) (below_alloc _ o1)
          have af_C0_5 := fun o => frz_b (cell_lt (c_C0_5)) (f_C0_5) (below_alloc _ o)
          have bf_C0_5 := fun o o1 => frz_b (cell_lt (ac_C0_5 o)) (af_C0_5 o) (below_alloc _ o1)
          have af_C1_5 := fun o => frz_b (cell_lt (c_C1_5)) (f_C1_5) (below_alloc _ o)
          have bf_C1_5 := fun o o1 => frz_b (cell_lt (ac_C1_5 o)) (af_C1_5 o) (below_alloc _ o1)
          clear hb c_C0_4 c_C1_4 c_X0_4 c_X1_4 c_Y0_4 c_Y1_4 f_C0_4 f_C1_4 r_c_4 r_X0_4 r_X1_4 r_Y0_4 r_Y1_4 T_4 ac_C0_4 bc_C0_4 ac_C1_4 bc_C1_4 ac_X0_4 bc_X0_4 ac_X1_4 bc_X1_4 ac_Y0_4 bc_Y0_4 ac_Y1_4 bc_Y1_4 af_C0_4 bf_C0_4 af_C1_4 bf_C1_4
          go_wp2_with fail
          (with_reducible refine (I_GroupSame_q _ (c + t) (c + t) _ (xs) _ (xs) true (rdb_rd (r_X0_5.out)) (rdb_rd (r_Y0_5.out)) (by first | omega | (simp; done) | (simp; omega)) (by first | omega | (simp; done) | (simp; omega)) (by simp [eqB_self])).mono ?_)
          rintro e w6 ⟨rfl, hb⟩
          have c_C0_6 := cell_b (c_C0_5) hb
          have c_C1_6 := cell_b (c_C1_5) hb
          have c_X0_6 := cell_b (c_X0_5) hb
          have c_X1_6 := cell_b (c_X1_5) hb
          have c_Y0_6 := cell_b (c_Y0_5) hb
          have c_Y1_6 := cell_b (c_Y1_5) hb
          have f_C0_6 := frz_b (cell_lt (c_C0_5)) (f_C0_5) hb
          have f_C1_6 := frz_b (cell_lt (c_C1_5)) (f_C1_5) hb
          have r_c_6 := Lib.hid (rdb_b (r_c_5.out) hb)
          have r_X0_6 := Lib.hid (rdb_b (r_X0_5.out) hb)
          have r_X1_6 := Lib.hid (rdb_b (r_X1_5.out) hb)
          have r_Y0_6 := Lib.hid (rdb_b (r_Y0_5.out) hb)
          have r_Y1_6 := Lib.hid (rdb_b (r_Y1_5.out) hb)
          have T_6 := Lib.hid (below_trans (T_5.out) hb)
          have z_6 : w5.heap.size ≤ w6.heap.size := (by have := hb.size; (try simp at this); omega)
          have ac_C0_6 := fun o => cell_b (c_C0_6) (below_alloc _ o)
          have bc_C0_6 := fun o o1 => cell_b (ac_C0_6 o) (below_alloc _ o1)
          have ac_C1_6 := fun o => cell_b (c_C1_6) (below_alloc _ o)
          have bc_C1_6 := fun o o1 => cell_b (ac_C1_6 o) (below_alloc _ o1)
          have ac_X0_6 := fun o => cell_b (c_X0_6) (below_alloc _ o)
          have bc_X0_6 := fun o o1 => cell_b (ac_X0_6 o) (below_alloc _ o1)
          have ac_X1_6 := fun o => cell_b (c_X1_6) (below_alloc _ o)
          have bc_X1_6 := fun o o1 => cell_b (ac_X1_6 o) (below_alloc _ o1)
          have ac_Y0_6 := fun o => cell_b (c_Y0_6) (below_alloc _ o)
          have bc_Y0_6 := fun o o1 => cell_b (ac_Y0_6 o) (below_alloc _ o1)
          have ac_Y1_6 := fun o => cell_b (c_Y1_6) (below_alloc _ o)
          have bc_Y1_6 := fun o o1 => cell_b (ac_Y1_6 o) (below_alloc _ o1)
          have af_C0_6 := fun o => frz_b (cell_lt (c_C0_6)) (f_C0_6) (below_alloc _ o)
          have bf_C0_6 := fun o o1 => frz_b (cell_lt (ac_C0_6 o)) (af_C0_6 o) (below_alloc _ o1)
          have af_C1_6 := fun o => frz_b (cell_lt (c_C1_6)) (f_C1_6) (below_alloc _ o)
          have bf_C1_6 := fun o o1 => frz_b (cell_lt (ac_C1_6 o)) (af_C1_6 o) (below_alloc _ o1)
          clear hb c_C0_5 c_C1_5 c_X0_5 c_X1_5 c_Y0_5 c_Y1_5 f_C0_5 f_C1_5 r_c_5 r_X0_5 r_X1_5 r_Y0_5 r_Y1_5 T_5 ac_C0_5 bc_C0_5 ac_C1_5 bc_C1_5 ac_X0_5 bc_X0_5 ac_X1_5 bc_X1_5 ac_Y0_5 bc_Y0_5 ac_Y1_5 bc_Y1_5 af_C0_5 bf_C0_5 af_C1_5 bf_C1_5
          go_wp2_with fail
          (with_reducible refine (eqB_true (drew_b (L_wkInts _ _ _ (([] : List Int)) (([] : List Int)) (rdb_rd (r_X1_6.out)) (rdb_rd (r_Y1_6.out)) (by first | omega | (simp; done) | (simp; omega)) (by first | omega | (simp; done) | (simp; omega))))).mono ?_)
          rintro e w7 ⟨rfl, hb⟩
          have c_C0_7 := cell_b (c_C0_6) hb
          have c_C1_7 := cell_b (c_C1_6) hb
          have c_X0_7 := cell_b (c_X0_6) hb
          have c_X1_7 := cell_b (c_X1_6) hb
          have c_Y0_7 := cell_b (c_Y0_6) hb
          have c_Y1_7 := cell_b (c_Y1_6) hb
          have f_C0_7 := frz_b (cell_lt (c_C0_6)) (f_C0_6) hb
          have f_C1_7 := frz_b (cell_lt (c_C1_6)) (f_C1_6) hb
          have r_c_7 := Lib.hid (rdb_b (r_c_6.out) hb)
          have r_X0_7 := Lib.hid (rdb_b (r_X0_6.out) hb)
          have r_X1_7 := Lib.hid (rdb_b (r_X1_6.out) hb)
          have r_Y0_7 := Lib.hid (rdb_b (r_Y0_6.out) hb)
          have r_Y1_7 := Lib.hid (rdb_b (r_Y1_6.out) hb)
          have T_7 := Lib.hid (below_trans (T_6.out) hb)
          have z_7 : w6.heap.size ≤ w7.heap.size := (by have := hb.size; (try simp at this); omega)
          have ac_C0_7 := fun o => cell_b (c_C0_7) (below_alloc _ o)
          have bc_C0_7 := fun o o1 => cell_b (ac_C0_7 o) (below_alloc _ o1)
          have ac_C1_7 := fun o => cell_b (c_C1_7) (below_alloc _ o)
          have bc_C1_7 := fun o o1 => cell_b (ac_C1_7 o) (below_alloc _ o1)
          have ac_X0_7 := fun o => cell_b (c_X0_7) (below_alloc _ o)
          have bc_X0_7 := fun o o1 => cell_b (ac_X0_7 o) (below_alloc _ o1)
          have ac_X1_7 := fun o => cell_b (c_X1_7) (below_alloc _ o)
          have bc_X1_7 := fun o o1 => cell_b (ac_X1_7 o) (below_alloc _ o1)
          have ac_Y0_7 := fun o => cell_b (c_Y0_7) (below_alloc _ o)
          have bc_Y0_7 := fun o o1 => cell_b (ac_Y0_7 o) (below_alloc _ o1)
          have ac_Y1_7 := fun o => cell_b (c_Y1_7) (below_alloc _ o)
          have bc_Y1_7 := fun o o1 => cell_b (ac_Y1_7 o) (below_alloc _ o1)
          have af_C0_7 := fun o => frz_b (cell_lt (c_C0_7)) (f_C0_7) (below_alloc _ o)
          have bf_C0_7 := fun o o1 => frz_b (cell_lt (ac_C0_7 o)) (af_C0_7 o) (below_alloc _ o1)
          have af_C1_7 := fun o => frz_b (cell_lt (c_C1_7)) (f_C1_7) (below_alloc _ o)
          have bf_C1_7 := fun o o1 => frz_b (cell_lt (ac_C1_7 o)) (af_C1_7 o) (below_alloc _ o1)
          clear hb c_C0_6 c_C1_6 c_X0_6 c_X1_6 c_Y0_6 c_Y1_6 f_C0_6 f_C1_6 r_c_6 r_X0_6 r_X1_6 r_Y0_6 r_Y1_6 T_6 ac_C0_6 bc_C0_6 ac_C1_6 bc_C1_6 ac_X0_6 bc_X0_6 ac_X1_6 bc_X1_6 ac_Y0_6 bc_Y0_6 ac_Y1_6 bc_Y1_6 af_C0_6 bf_C0_6 af_C1_6 bf_C1_6
          go_wp2_with fail
          go_ret
          exact ⟨rfl, (T_7.out)⟩
      · by_cases hz : c + t = 0
        · obtain ⟨hc0, hc1, ht0, ht1, hs0, hs1, hxl⟩ := addOk_in hok
          obtain rfl : t = 0 := by omega
          obtain rfl : c = 0 := by omega
          have HX := Lib.hid (addOk_nil hok)
          have HV1 := Lib.hid hok
          clear hz hneg
          have HT1 : Hid (addG (0) xs (0) = (0, ([] : List Int), xs, true)) := Lib.hid (by rw [addG_eq, if_pos HV1.out, if_pos (by decide)])
          have HQ2 : Hid ((addG (0) xs (0)).1 = 0) := Lib.hid (by rw [HT1.out])
          have HQ3 : Hid ((addG (0) xs (0)).2.1 = ([] : List Int)) := Lib.hid (by rw [HT1.out])
          have HQ4 : Hid ((addG (0) xs (0)).2.2.1 = xs) := Lib.hid (by rw [HT1.out])
          have HQ5 : Hid ((addG (0) xs (0)).2.2.2 = true) := Lib.hid (by rw [HT1.out])
          go_wp2_with fail
          (with_reducible refine (I_AddGroup_q _ (0) _ (xs) (0) (0) (([] : List Int)) (xs) (true) (0) ((xs).length) (rdb_rd (rdb_b (r_c_1.out) (below_alloc _ _))) (by first | omega | (simp; done) | (simp; omega)) HQ2.out HQ3.out HQ4.out HQ5.out rfl rfl).mono ?_)
          rintro e w2 ⟨aX0, cX0, aX1, cX1, rfl, hX0, hX1, hb⟩
          have c_C0_2 := cell_b (p := ⟨w1.heap.size, 0, none⟩) (v := .int .i64 0) (by simp) hb
          have f_C0_2 := frz_b (p := ⟨w1.heap.size, 0, none⟩) (by first | omega | (simp; done) | (simp; omega)) (show _ = false by simp) hb
          have c_C1_2 := cell_b (p := ⟨w1.heap.size, 1, none⟩) (v := .slice a1 xs.length c1) (by simp) hb
          have f_C1_2 := frz_b (p := ⟨w1.heap.size, 1, none⟩) (by first | omega | (simp; done) | (simp; omega)) (show _ = false by simp) hb
          have r_c_2 := Lib.hid (rdb_b (rdb_b (r_c_1.out) (below_alloc _ _)) hb)
          have T_2 := Lib.hid (below_trans (below_trans (T_1.out) (below_alloc _ _)) hb)
          have z_2 : w1.heap.size + 1 ≤ w2.heap.size := (by have := hb.size; (try simp at this); omega)
          have r_X0_2 := Lib.hid (rdb_mono hX0 (show w1.heap.size + 1 ≤ _ by first | omega | (simp; done) | (simp; omega)))
          have lr_X0 := Lib.hid (rdb_lo r_X0_2.out)
          have hr_X0 := Lib.hid (rdb_hi r_X0_2.out)
          have r_X1_2 := Lib.hid (rdb_mono hX1 (show w1.heap.size + 1 ≤ _ by first | omega | (simp; done) | (simp; omega)))
          have lr_X1 := Lib.hid (rdb_lo r_X1_2.out)
          have hr_X1 := Lib.hid (rdb_hi r_X1_2.out)
          have ac_C0_2 := fun o => cell_b (c_C0_2) (below_alloc _ o)
          have bc_C0_2 := fun o o1 => cell_b (ac_C0_2 o) (below_alloc _ o1)
          have ac_C1_2 := fun o => cell_b (c_C1_2) (below_alloc _ o)
          have bc_C1_2 := fun o o1 => cell_b (ac_C1_2 o) (below_alloc _ o1)
          have af_C0_2 := fun o => frz_b (cell_lt (c_C0_2)) (f_C0_2) (below_alloc _ o)
          have bf_C0_2 := fun o o1 => frz_b (cell_lt (ac_C0_2 o)) (af_C0_2 o) (below_alloc _ o1)
          have af_C1_2 := fun o => frz_b (cell_lt (c_C1_2)) (f_C1_2) (below_alloc _ o)
          have bf_C1_2 := fun o o1 => frz_b (cell_lt (ac_C1_2 o)) (af_C1_2 o) (below_alloc _ o1)
          clear hb r_c_1 T_1 hX0 hX1
          go_wp2_with fail
          (with_reducible refine (S_AddGroup_q _ (0) _ (xs) (0) (0) (([] : List Int)) (xs) (true) (0) ((xs).length) (rdb_rd (rdb_b (r_c_2.out) (below_alloc _ _))) (by first | omega | (simp; done) | (simp; omega)) HQ2.out HQ3.out HQ4.out HQ5.out rfl rfl).mono ?_)
          rintro e w3 ⟨aY0, cY0, aY1, cY1, rfl, hY0, hY1, hb⟩
          have c_C0_3 := cell_b (cell_b (c_C0_2) (below_alloc _ _)) hb
          have c_C1_3 := cell_b (cell_b (c_C1_2) (below_alloc _ _)) hb
          have f_C0_3 := frz_b (cell_lt (cell_b (c_C0_2) (below_alloc _ _))) (frz_b (cell_lt (c_C0_2)) (f_C0_2) (below_alloc _ _)) hb
          have f_C1_3 := frz_b (cell_lt (cell_b (c_C1_2) (below_alloc _ _))) (frz_b (cell_lt (c_C1_2)) (f_C1_2) (below_alloc _ _)) hb
          have c_X0_3 := cell_b (p := ⟨w2.heap.size, 0, none⟩) (v := .int .i64 (0)) (by simp) hb
          have c_X1_3 := cell_b (p := ⟨w2.heap.size, 1, none⟩) (v := .slice aX0 (0) cX0) (by simp) hb
          have r_c_3 := Lib.hid (rdb_b (rdb_b (r_c_2.out) (below_alloc _ _)) hb)
          have r_X0_3 := Lib.hid (rdb_b (rdb_b (r_X0_2.out) (below_alloc _ _)) hb)
          have r_X1_3 := Lib.hid (rdb_b (rdb_b (r_X1_2.out) (below_alloc _ _)) hb)
          have T_3 := Lib.hid (below_trans (below_trans (T_2.out) (below_alloc _ _)) hb)
          have z_3 : w2.heap.size + 1 ≤ w3.heap.size := (by have := hb.size; (try simp at this); omega)
          have r_Y0_3 := Lib.hid (rdb_mono hY0 (show w2.heap.size + 1 ≤ _ by first | omega | (simp; done) | (simp; omega)))
          have lr_Y0 := Lib.hid (rdb_lo r_Y0_3.out)
          have hr_Y0 := Lib.hid (rdb_hi r_Y0_3.out)
          have r_Y1_3 := Lib.hid (rdb_mono hY1 (show w2.heap.size + 1 ≤ _ by first | omega | (simp; done) | (simp; omega)))
          have lr_Y1 := Lib.hid (rdb_lo r_Y1_3.out)
          have hr_Y1 := Lib.hid (rdb_hi r_Y1_3.out)
          have ac_C0_3 := fun o => cell_b (c_C0_3) (below_alloc _ o)
          have bc_C0_3 := fun o o1 => cell_b (ac_C0_3 o) (below_alloc _ o1)
          have ac_C1_3 := fun o => cell_b (c_C1_3) (below_alloc _ o)
          have bc_C1_3 := fun o o1 => cell_b (ac_C1_3 o) (below_alloc _ o1)
          have ac_X0_3 := fun o => cell_b (c_X0_3) (below_alloc _ o)
          have bc_X0_3 := fun o o1 => cell_b (ac_X0_3 o) (below_alloc _ o1)
          have ac_X1_3 := fun o => cell_b (c_X1_3) (below_alloc _ o)
          have bc_X1_3 := fun o o1 => cell_b (ac_X1_3 o) (below_alloc _ o1)
          have af_C0_3 := fun o => frz_b (cell_lt (c_C0_3)) (f_C0_3) (below_alloc _ o)
          have bf_C0_3 := fun o o1 => frz_b (cell_lt (ac_C0_3 o)) (af_C0_3 o) (below_alloc _ o1)
          have af_C1_3 := fun o => frz_b (cell_lt (c_C1_3)) (f_C1_3) (below_alloc _ o)
          have bf_C1_3 := fun o o1 => frz_b (cell_lt (ac_C1_3 o)) (af_C1_3 o) (below_alloc _ o1)
          clear hb c_C0_2 c_C1_2 f_C0_2 f_C1_2 r_c_2 r_X0_2 r_X1_2 T_2 ac_C0_2 bc_C0_2 ac_C1_2 bc_C1_2 af_C0_2 bf_C0_2 af_C1_2 bf_C1_2 hY0 hY1
          go_wp2_with fail
          (with_reducible refine (I_GroupSame_q _ (0) (0) _ (([] : List Int)) _ (([] : List Int)) true (rdb_rd (rdb_b (r_X0_3.out) (below_alloc _ _))) (rdb_rd (rdb_b (r_Y0_3.out) (below_alloc _ _))) (by first | omega | (simp; done) | (simp; omega)) (by first | omega | (simp; done) | (simp; omega)) (by simp [eqB_self])).mono ?_)
          rintro e w4 ⟨rfl, hb⟩
          have c_C0_4 := cell_b (cell_b (c_C0_3) (below_alloc _ _)) hb
          have c_C1_4 := cell_b (cell_b (c_C1_3) (below_alloc _ _)) hb
          have c_X0_4 := cell_b (cell_b (c_X0_3) (below_alloc _ _)) hb
          have c_X1_4 := cell_b (cell_b (c_X1_3) (below_alloc _ _)) hb
          have f_C0_4 := frz_b (cell_lt (cell_b (c_C0_3) (below_alloc _ _))) (frz_b (cell_lt (c_C0_3)) (f_C0_3) (below_alloc _ _)) hb
          have f_C1_4 := frz_b (cell_lt (cell_b (c_C1_3) (below_alloc _ _))) (frz_b (cell_lt (c_C1_3)) (f_C1_3) (below_alloc _ _)) hb
          have c_Y0_4 := cell_b (p := ⟨w3.heap.size, 0, none⟩) (v := .int .i64 (0)) (by simp) hb
          have c_Y1_4 := cell_b (p := ⟨w3.heap.size, 1, none⟩) (v := .slice aY0 (0) cY0) (by simp) hb
          have r_c_4 := Lib.hid (rdb_b (rdb_b (r_c_3.out) (below_alloc _ _)) hb)
          have r_X0_4 := Lib.hid (rdb_b (rdb_b (r_X0_3.out) (below_alloc _ _)) hb)
          have r_X1_4 := Lib.hid (rdb_b (rdb_b (r_X1_3.out) (below_alloc _ _)) hb)
          have r_Y0_4 := Lib.hid (rdb_b (rdb_b (r_Y0_3.out) (below_alloc _ _)) hb)
          have r_Y1_4 := Lib.hid (rdb_b (rdb_b (r_Y1_3.out) (below_alloc _ _)) hb)
          have T_4 := Lib.hid (below_trans (below_trans (T_3.out) (below_alloc _ _)) hb)
          have z_4 : w3.heap.size + 1 ≤ w4.heap.size := (by have := hb.size; (try simp at this); omega)
          have ac_C0_4 := fun o => cell_b (c_C0_4) (below_alloc _ o)
          have bc_C0_4 := fun o o1 => cell_b (ac_C0_4 o) (below_alloc _ o1)
          have ac_C1_4 := fun o => cell_b (c_C1_4) (below_alloc _ o)
          have bc_C1_4 := fun o o1 => cell_b (ac_C1_4 o) (below_alloc _ o1)
          have ac_X0_4 := fun o => cell_b (c_X0_4) (below_alloc _ o)
          have bc_X0_4 := fun o o1 => cell_b (ac_X0_4 o) (below_alloc _ o1)
          have ac_X1_4 := fun o => cell_b (c_X1_4) (below_alloc _ o)
          have bc_X1_4 := fun o o1 => cell_b (ac_X1_4 o) (below_alloc _ o1)
          have ac_Y0_4 := fun o => cell_b (c_Y0_4) (below_alloc _ o)
          have bc_Y0_4 := fun o o1 => cell_b (ac_Y0_4 o) (below_alloc _ o1)
          have ac_Y1_4 := fun o => cell_b (c_Y1_4) (below_alloc _ o)
          have bc_Y1_4 := fun o o1 => cell_b (ac_Y1_4 o) (below_alloc _ o1)
          have af_C0_4 := fun o => frz_b (cell_lt (c_C0_4)) (f_C0_4) (below_alloc _ o)
          have bf_C0_4 := fun o o1 => frz_b (cell_lt (ac_C0_4 o)) (af_C0_4 o) (below_alloc _ o1)
          have af_C1_4 := fun o => frz_b (cell_lt (c_C1_4)) (f_C1_4) (below_alloc _ o)
          have bf_C1_4 := fun o o1 => frz_b (cell_lt (ac_C1_4 o)) (af_C1_4 o) (below_alloc _ o1)
          clear hb c_C0_3 c_C1_3 c_X0_3 c_X1_3 f_C0_3 f_C1_3 r_c_3 r_X0_3 r_X1_3 r_Y0_3 r_Y1_3 T_3 ac_C0_3 bc_C0_3 ac_C1_3 bc_C1_3 ac_X0_3 bc_X0_3 ac_X1_3 bc_X1_3 af_C0_3 bf_C0_3 af_C1_3 bf_C1_3
          go_wp2_with fail
          (with_reducible refine (eqB_true (drew_b (L_wkInts _ _ _ (xs) (xs) (rdb_rd (r_X1_4.out)) (rdb_rd (r_Y1_4.out)) (by first | omega | (simp; done) | (simp; omega)) (by first | omega | (simp; done) | (simp; omega))))).mono ?_)
          rintro e w5 ⟨rfl, hb⟩
          have c_C0_5 := cell_b (c_C0_4) hb
          have c_C1_5 := cell_b (c_C1_4) hb
          have c_X0_5 := cell_b (c_X0_4) hb
          have c_X1_5 := cell_b (c_X1_4) hb
          have c_Y0_5 := cell_b (c_Y0_4) hb
          have c_Y1_5 := cell_b (c_Y1_4) hb
          have f_C0_5 := frz_b (cell_lt (c_C0_4)) (f_C0_4) hb
          have f_C1_5 := frz_b (cell_lt (c_C1_4)) (f_C1_4) hb
          have r_c_5 := Lib.hid (rdb_b (r_c_4.out) hb)
          have r_X0_5 := Lib.hid (rdb_b (r_X0_4.out) hb)
          have r_X1_5 := Lib.hid (rdb_b (r_X1_4.out) hb)
          have r_Y0_5 := Lib.hid (rdb_b (r_Y0_4.out) hb)
          have r_Y1_5 := Lib.hid (rdb_b (r_Y1_4.out) hb)
          have T_5 := Lib.hid (below_trans (T_4.out) hb)
          have z_5 : w4.heap.size ≤ w5.heap.size := (by have := hb.size; (try simp at this); omega)
          have ac_C0_5 := fun o => cell_b (c_C0_5) (below_alloc _ o)
          have bc_C0_5 := fun o o1 => cell_b (ac_C0_5 o) (below_alloc _ o1)
          have ac_C1_5 := fun o => cell_b (c_C1_5) (below_alloc _ o)
          have bc_C1_5 := fun o o1 => cell_b (ac_C1_5 o) (below_alloc _ o1)
          have ac_X0_5 := fun o => cell_b (c_X0_5) (below_alloc _ o)
          have bc_X0_5 := fun o o1 => cell_b (ac_X0_5 o) (below_alloc _ o1)
          have ac_X1_5 := fun o => cell_b (c_X1_5) (below_alloc _ o)
          have bc_X1_5 := fun o o1 => cell_b (ac_X1_5 o) (below_alloc _ o1)
          have ac_Y0_5 := fun o => cell_b (c_Y0_5) (below_alloc _ o)
          have bc_Y0_5 := fun o o1 => cell_b (ac_Y0_5 o) (below_alloc _ o1)
          have ac_Y1_5 := fun o => cell_b (c_Y1_5) (below_alloc _ o)
          have bc_Y1_5 := fun o o1 => cell_b (ac_Y1_5 o) (below_alloc _ o1)
          have af_C0_5 := fun o => frz_b (cell_lt (c_C0_5)) (f_C0_5) (below_alloc _ o)
          have bf_C0_5 := fun o o1 => frz_b (cell_lt (ac_C0_5 o)) (af_C0_5 o) (below_alloc _ o1)
          have af_C1_5 := fun o => frz_b (cell_lt (c_C1_5)) (f_C1_5) (below_alloc _ o)
          have bf_C1_5 := fun o o1 => frz_b (cell_lt (ac_C1_5 o)) (af_C1_5 o) (below_alloc _ o1)
          clear hb c_C0_4 c_C1_4 c_X0_4 c_X1_4 c_Y0_4 c_Y1_4 f_C0_4 f_C1_4 r_c_4 r_X0_4 r_X1_4 r_Y0_4 r_Y1_4 T_4 ac_C0_4 bc_C0_4 ac_C1_4 bc_C1_4 ac_X0_4 bc_X0_4 ac_X1_4 bc_X1_4 ac_Y0_4 bc_Y0_4 ac_Y1_4 bc_Y1_4 af_C0_4 bf_C0_4 af_C1_4 bf_C1_4
          clear c_Y0_5 ac_Y0_5 bc_Y0_5 c_Y1_5 ac_Y1_5 bc_Y1_5 r_Y0_5 lr_Y0 hr_Y0 r_Y1_5 lr_Y1 hr_Y1
          have HZ : Hid (addG (0) (xs) (0) = (0, ([] : List Int), xs, true)) := Lib.hid (by rw [addG_eq, if_pos HV1.out, if_pos (by decide)])
          have HQ6 : Hid ((addG (0) (xs) (0)).1 = 0) := Lib.hid (by rw [HZ.out])
          have HQ7 : Hid ((addG (0) (xs) (0)).2.1 = ([] : List Int)) := Lib.hid (by rw [HZ.out])
          have HQ8 : Hid ((addG (0) (xs) (0)).2.2.1 = xs) := Lib.hid (by rw [HZ.out])
          have HQ9 : Hid ((addG (0) (xs) (0)).2.2.2 = true) := Lib.hid (by rw [HZ.out])
          go_wp2_with fail
          (with_reducible refine (I_AddGroup_q _ (0) _ (xs) (0) (0) (([] : List Int)) (xs) (true) (0) ((xs).length) (rdb_rd (r_c_5.out)) (by first | omega | (simp; done) | (simp; omega)) HQ6.out HQ7.out HQ8.out HQ9.out rfl rfl).mono ?_)
          rintro e w6 ⟨aZ0, cZ0, aZ1, cZ1, rfl, hZ0, hZ1, hb⟩
          have c_C0_6 := cell_b (c_C0_5) hb
          have c_C1_6 := cell_b (c_C1_5) hb
          have c_X0_6 := cell_b (c_X0_5) hb
          have c_X1_6 := cell_b (c_X1_5) hb
          have f_C0_6 := frz_b (cell_lt (c_C0_5)) (f_C0_5) hb
          have f_C1_6 := frz_b (cell_lt (c_C1_5)) (f_C1_5) hb
          have r_c_6 := Lib.hid (rdb_b (r_c_5.out) hb)
          have r_X0_6 := Lib.hid (rdb_b (r_X0_5.out) hb)
          have r_X1_6 := Lib.hid (rdb_b (r_X1_5.out) hb)
          have T_6 := Lib.hid (below_trans (T_5.out) hb)
          have z_6 : w5.heap.size ≤ w6.heap.size := (by have := hb.size; (try simp at this); omega)
          have r_Z0_6 := Lib.hid (rdb_mono hZ0 (show w5.heap.size ≤ _ by first | omega | (simp; done) | (simp; omega)))
          have lr_Z0 := Lib.hid (rdb_lo r_Z0_6.out)
          have hr_Z0 := Lib.hid (rdb_hi r_Z0_6.out)
          have r_Z1_6 := Lib.hid (rdb_mono hZ1 (show w5.heap.size ≤ _ by first | omega | (simp; done) | (simp; omega)))
          have lr_Z1 := Lib.hid (rdb_lo r_Z1_6.out)
          have hr_Z1 := Lib.hid (rdb_hi r_Z1_6.out)
          have ac_C0_6 := fun o => cell_b (c_C0_6) (below_alloc _ o)
          have bc_C0_6 := fun o o1 => cell_b (ac_C0_6 o) (below_alloc _ o1)
          have ac_C1_6 := fun o => cell_b (c_C1_6) (below_alloc _ o)
          have bc_C1_6 := fun o o1 => cell_b (ac_C1_6 o) (below_alloc _ o1)
          have ac_X0_6 := fun o => cell_b (c_X0_6) (below_alloc _ o)
          have bc_X0_6 := fun o o1 => cell_b (ac_X0_6 o) (below_alloc _ o1)
          have ac_X1_6 := fun o => cell_b (c_X1_6) (below_alloc _ o)
          have bc_X1_6 := fun o o1 => cell_b (ac_X1_6 o) (below_alloc _ o1)
          have af_C0_6 := fun o => frz_b (cell_lt (c_C0_6)) (f_C0_6) (below_alloc _ o)
          have bf_C0_6 := fun o o1 => frz_b (cell_lt (ac_C0_6 o)) (af_C0_6 o) (below_alloc _ o1)
          have af_C1_6 := fun o => frz_b (cell_lt (c_C1_6)) (f_C1_6) (below_alloc _ o)
          have bf_C1_6 := fun o o1 => frz_b (cell_lt (ac_C1_6 o)) (af_C1_6 o) (below_alloc _ o1)
          clear hb c_C0_5 c_C1_5 c_X0_5 c_X1_5 f_C0_5 f_C1_5 r_c_5 r_X0_5 r_X1_5 T_5 ac_C0_5 bc_C0_5 ac_C1_5 bc_C1_5 ac_X0_5 bc_X0_5 ac_X1_5 bc_X1_5 af_C0_5 bf_C0_5 af_C1_5 bf_C1_5 hZ0 hZ1
          have HV : Hid (addG (0) (([] : List Int)) (0) = (0, ([] : List Int), ([] : List Int), true)) := Lib.hid (by decide)
          have HQ10 : Hid ((addG (0) (([] : List Int)) (0)).1 = 0) := Lib.hid (by rw [HV.out])
          have HQ11 : Hid ((addG (0) (([] : List Int)) (0)).2.1 = ([] : List Int)) := Lib.hid (by rw [HV.out])
          have HQ12 : Hid ((addG (0) (([] : List Int)) (0)).2.2.1 = ([] : List Int)) := Lib.hid (by rw [HV.out])
          have HQ13 : Hid ((addG (0) (([] : List Int)) (0)).2.2.2 = true) := Lib.hid (by rw [HV.out])
          go_wp2_with fail
          (with_reducible refine (I_AddGroup_q _ (0) _ (([] : List Int)) (0) (0) (([] : List Int)) (([] : List Int)) (true) (0) (0) (rdb_rd (rdb_b (r_Z0_6.out) (below_alloc _ _))) (by first | omega | (simp; done) | (simp; omega)) HQ10.out HQ11.out HQ12.out HQ13.out rfl rfl).mono ?_)
          rintro e w7 ⟨aV0, cV0, aV1, cV1, rfl, hV0, hV1, hb⟩
          have c_C0_7 := cell_b (cell_b (c_C0_6) (below_alloc _ _)) hb
          have c_C1_7 := cell_b (cell_b (c_C1_6) (below_alloc _ _)) hb
          have c_X0_7 := cell_b (cell_b (c_X0_6) (below_alloc _ _)) hb
          have c_X1_7 := cell_b (cell_b (c_X1_6) (below_alloc _ _)) hb
          have f_C0_7 := frz_b (cell_lt (cell_b (c_C0_6) (below_alloc _ _))) (frz_b (cell_lt (c_C0_6)) (f_C0_6) (below_alloc _ _)) hb
          have f_C1_7 := frz_b (cell_lt (cell_b (c_C1_6) (below_alloc _ _))) (frz_b (cell_lt (c_C1_6)) (f_C1_6) (below_alloc _ _)) hb
          have c_Z0_7 := cell_b (p := ⟨w6.heap.size, 0, none⟩) (v := .int .i64 (0)) (by simp) hb
          have c_Z1_7 := cell_b (p := ⟨w6.heap.size, 1, none⟩) (v := .slice aZ0 (0) cZ0) (by simp) hb
          have r_c_7 := Lib.hid (rdb_b (rdb_b (r_c_6.out) (below_alloc _ _)) hb)
          have r_X0_7 := Lib.hid (rdb_b (rdb_b (r_X0_6.out) (below_alloc _ _)) hb)
          have r_X1_7 := Lib.hid (rdb_b (rdb_b (r_X1_6.out) (below_alloc _ _)) hb)
          have r_Z0_7 := Lib.hid (rdb_b (rdb_b (r_Z0_6.out) (below_alloc _ _)) hb)
          have r_Z1_7 := Lib.hid (rdb_b (rdb_b (r_Z1_6.out) (below_alloc _ _)) hb)
          have T_7 := Lib.hid (below_trans (below_trans (T_6.out) (below_alloc _ _)) hb)
          have z_7 : w6.heap.size + 1 ≤ w7.heap.size := (by have := hb.size; (try simp at this); omega)
          have r_V0_7 := Lib.hid (rdb_mono hV0 (show w6.heap.size + 1 ≤ _ by first | omega | (simp; done) | (simp; omega)))
          have lr_V0 := Lib.hid (rdb_lo r_V0_7.out)
          have hr_V0 := Lib.hid (rdb_hi r_V0_7.out)
          have r_V1_7 := Lib.hid (rdb_mono hV1 (show w6.heap.size + 1 ≤ _ by first | omega | (simp; done) | (simp; omega)))
          have lr_V1 := Lib.hid (rdb_lo r_V1_7.out)
          have hr_V1 := Lib.hid (rdb_hi r_V1_7.out)
          have ac_C0_7 := fun o => cell_b (c_C0_7) (below_alloc _ o)
          have bc_C0_7 := fun o o1 => cell_b (ac_C0_7 o) (below_alloc _ o1)
          have ac_C1_7 := fun o => cell_b (c_C1_7) (below_alloc _ o)
          have bc_C1_7 := fun o o1 => cell_b (ac_C1_7 o) (below_alloc _ o1)
          have ac_X0_7 := fun o => cell_b (c_X0_7) (below_alloc _ o)
          have bc_X0_7 := fun o o1 => cell_b (ac_X0_7 o) (below_alloc _ o1)
          have ac_X1_7 := fun o => cell_b (c_X1_7) (below_alloc _ o)
          have bc_X1_7 := fun o o1 => cell_b (ac_X1_7 o) (below_alloc _ o1)
          have ac_Z0_7 := fun o => cell_b (c_Z0_7) (below_alloc _ o)
          have bc_Z0_7 := fun o o1 => cell_b (ac_Z0_7 o) (below_alloc _ o1)
          have ac_Z1_7 := fun o => cell_b (c_Z1_7) (below_alloc _ o)
          have bc_Z1_7 := fun o o1 => cell_b (ac_Z1_7 o) (below_alloc _ o1)
          have af_C0_7 := fun o => frz_b (cell_lt (c_C0_7)) (f_C0_7) (below_alloc _ o)
          have bf_C0_7 := fun o o1 => frz_b (cell_lt (ac_C0_7 o)) (af_C0_7 o) (below_alloc _ o1)
          have af_C1_7 := fun o => frz_b (cell_lt (c_C1_7)) (f_C1_7) (below_alloc _ o)
          have bf_C1_7 := fun o o1 => frz_b (cell_lt (ac_C1_7 o)) (af_C1_7 o) (below_alloc _ o1)
          clear hb c_C0_6 c_C1_6 c_X0_6 c_X1_6 f_C0_6 f_C1_6 r_c_6 r_X0_6 r_X1_6 r_Z0_6 r_Z1_6 T_6 ac_C0_6 bc_C0_6 ac_C1_6 bc_C1_6 ac_X0_6 bc_X0_6 ac_X1_6 bc_X1_6 af_C0_6 bf_C0_6 af_C1_6 bf_C1_6 hV0 hV1
          have hx0 : ((xs.length : Int) + 0 == (xs.length : Int)) = true := by simp
          go_wp2_with fail
          (with_reducible refine (I_GroupSame_q _ (0) (0) _ (([] : List Int)) _ (([] : List Int)) true (rdb_rd (rdb_b (r_V0_7.out) (below_alloc _ _))) (rdb_rd (rdb_b (r_X0_7.out) (below_alloc _ _))) (by first | omega | (simp; done) | (simp; omega)) (by first | omega | (simp; done) | (simp; omega)) (by simp [eqB_self])).mono ?_)
          rintro e w8 ⟨rfl, hb⟩
          have c_C0_8 := cell_b (cell_b (c_C0_7) (below_alloc _ _)) hb
          have c_C1_8 := cell_b (cell_b (c_C1_7) (below_alloc _ _)) hb
          have c_X0_8 := cell_b (cell_b (c_X0_7) (below_alloc _ _)) hb
          have c_X1_8 := cell_b (cell_b (c_X1_7) (below_alloc _ _)) hb
          have c_Z0_8 := cell_b (cell_b (c_Z0_7) (below_alloc _ _)) hb
          have c_Z1_8 := cell_b (cell_b (c_Z1_7) (below_alloc _ _)) hb
          have f_C0_8 := frz_b (cell_lt (cell_b (c_C0_7) (below_alloc _ _))) (frz_b (cell_lt (c_C0_7)) (f_C0_7) (below_alloc _ _)) hb
          have f_C1_8 := frz_b (cell_lt (cell_b (c_C1_7) (below_alloc _ _))) (frz_b (cell_lt (c_C1_7)) (f_C1_7) (below_alloc _ _)) hb
          have c_V0_8 := cell_b (p := ⟨w7.heap.size, 0, none⟩) (v := .int .i64 (0)) (by simp) hb
          have c_V1_8 := cell_b (p := ⟨w7.heap.size, 1, none⟩) (v := .slice aV0 (0) cV0) (by simp) hb
          have r_c_8 := Lib.hid (rdb_b (rdb_b (r_c_7.out) (below_alloc _ _)) hb)
          have r_X0_8 := Lib.hid (rdb_b (rdb_b (r_X0_7.out) (below_alloc _ _)) hb)
          have r_X1_8 := Lib.hid (rdb_b (rdb_b (r_X1_7.out) (below_alloc _ _)) hb)
          have r_Z0_8 := Lib.hid (rdb_b (rdb_b (r_Z0_7.out) (below_alloc _ _)) hb)
          have r_Z1_8 := Lib.hid (rdb_b (rdb_b (r_Z1_7.out) (below_alloc _ _)) hb)
          have r_V0_8 := Lib.hid (rdb_b (rdb_b (r_V0_7.out) (below_alloc _ _)) hb)
          have r_V1_8 := Lib.hid (rdb_b (rdb_b (r_V1_7.out) (below_alloc _ _)) hb)
          have T_8 := Lib.hid (below_trans (below_trans (T_7.out) (below_alloc _ _)) hb)
          have z_8 : w7.heap.size + 1 ≤ w8.heap.size := (by have := hb.size; (try simp at this); omega)
          have ac_C0_8 := fun o => cell_b (c_C0_8) (below_alloc _ o)
          have bc_C0_8 := fun o o1 => cell_b (ac_C0_8 o) (below_alloc _ o1)
          have ac_C1_8 := fun o => cell_b (c_C1_8) (below_alloc _ o)
          have bc_C1_8 := fun o o1 => cell_b (ac_C1_8 o) (below_alloc _ o1)
          have ac_X0_8 := fun o => cell_b (c_X0_8) (below_alloc _ o)
          have bc_X0_8 := fun o o1 => cell_b (ac_X0_8 o) (below_alloc _ o1)
          have ac_X1_8 := fun o => cell_b (c_X1_8) (below_alloc _ o)
          have bc_X1_8 := fun o o1 => cell_b (ac_X1_8 o) (below_alloc _ o1)
          have ac_Z0_8 := fun o => cell_b (c_Z0_8) (below_alloc _ o)
          have bc_Z0_8 := fun o o1 => cell_b (ac_Z0_8 o) (below_alloc _ o1)
          have ac_Z1_8 := fun o => cell_b (c_Z1_8) (below_alloc _ o)
          have bc_Z1_8 := fun o o1 => cell_b (ac_Z1_8 o) (below_alloc _ o1)
          have ac_V0_8 := fun o => cell_b (c_V0_8) (below_alloc _ o)
          have bc_V0_8 := fun o o1 => cell_b (ac_V0_8 o) (below_alloc _ o1)
          have ac_V1_8 := fun o => cell_b (c_V1_8) (below_alloc _ o)
          have bc_V1_8 := fun o o1 => cell_b (ac_V1_8 o) (below_alloc _ o1)
          have af_C0_8 := fun o => frz_b (cell_lt (c_C0_8)) (f_C0_8) (below_alloc _ o)
          have bf_C0_8 := fun o o1 => frz_b (cell_lt (ac_C0_8 o)) (af_C0_8 o) (below_alloc _ o1)
          have af_C1_8 := fun o => frz_b (cell_lt (c_C1_8)) (f_C1_8) (below_alloc _ o)
          have bf_C1_8 := fun o o1 => frz_b (cell_lt (ac_C1_8 o)) (af_C1_8 o) (below_alloc _ o1)
          clear hb c_C0_7 c_C1_7 c_X0_7 c_X1_7 c_Z0_7 c_Z1_7 f_C0_7 f_C1_7 r_c_7 r_X0_7 r_X1_7 r_Z0_7 r_Z1_7 r_V0_7 r_V1_7 T_7 ac_C0_7 bc_C0_7 ac_C1_7 bc_C1_7 ac_X0_7 bc_X0_7 ac_X1_7 bc_X1_7 ac_Z0_7 bc_Z0_7 ac_Z1_7 bc_Z1_7 af_C0_7 bf_C0_7 af_C1_7 bf_C1_7
          go_wp2_with fail
          go_ret
          exact ⟨rfl, (T_8.out)⟩
        · obtain ⟨hc0, hc1, ht0, ht1, hs0, hs1, hxl⟩ := addOk_in hok
          have HV1 := Lib.hid hok
          obtain ⟨h, hh⟩ : ∃ h : Int, h = t / 2 := ⟨_, rfl⟩
          have hh1 : 0 ≤ h := by omega
          have hh2 : h ≤ t := by omega
          have hh3 : c + h = 0 → t = 1 ∧ c = 0 := by omega
          have hd1 : t.tdiv 2 = h := by rw [hh]; exact Int.tdiv_eq_ediv_of_nonneg (by omega)
          have hd2 : t / 2 = h := hh.symm
          clear hh
          have HT1 : Hid (addG (c) xs (t) = (c + t, xs, ([] : List Int), true)) := Lib.hid (by rw [addG_eq, if_pos HV1.out, if_neg hz])
          have HQ2 : Hid ((addG (c) xs (t)).1 = c + t) := Lib.hid (by rw [HT1.out])
          have HQ3 : Hid ((addG (c) xs (t)).2.1 = xs) := Lib.hid (by rw [HT1.out])
          have HQ4 : Hid ((addG (c) xs (t)).2.2.1 = ([] : List Int)) := Lib.hid (by rw [HT1.out])
          have HQ5 : Hid ((addG (c) xs (t)).2.2.2 = true) := Lib.hid (by rw [HT1.out])
          go_wp2_with fail
          (with_reducible refine (I_AddGroup_q _ (c) _ (xs) (t) (c + t) (xs) (([] : List Int)) (true) ((xs).length) (0) (rdb_rd (rdb_b (r_c_1.out) (below_alloc _ _))) (by first | omega | (simp; done) | (simp; omega)) HQ2.out HQ3.out HQ4.out HQ5.out rfl rfl).mono ?_)
          rintro e w2 ⟨aX0, cX0, aX1, cX1, rfl, hX0, hX1, hb⟩
          have c_C0_2 := cell_b (p := ⟨w1.heap.size, 0, none⟩) (v := .int .i64 c) (by simp) hb
          have f_C0_2 := frz_b (p := ⟨w1.heap.size, 0, none⟩) (by first | omega | (simp; done) | (simp; omega)) (show _ = false by simp) hb
          have c_C1_2 := cell_b (p := ⟨w1.heap.size, 1, none⟩) (v := .slice a1 xs.length c1) (by simp) hb
          have f_C1_2 := frz_b (p := ⟨w1.heap.size, 1, none⟩) (by first | omega | (simp; done) | (simp; omega)) (show _ = false by simp) hb
          have r_c_2 := Lib.hid (rdb_b (rdb_b (r_c_1.out) (below_alloc _ _)) hb)
          have T_2 := Lib.hid (below_trans (below_trans (T_1.out) (below_alloc _ _)) hb)
          have z_2 : w1.heap.size + 1 ≤ w2.heap.size := (by have := hb.size; (try simp at this); omega)
          have r_X0_2 := Lib.hid (rdb_mono hX0 (show w1.heap.size + 1 ≤ _ by first | omega | (simp; done) | (simp; omega)))
          have lr_X0 := Lib.hid (rdb_lo r_X0_2.out)
          have hr_X0 := Lib.hid (rdb_hi r_X0_2.out)
          have r_X1_2 := Lib.hid (rdb_mono hX1 (show w1.heap.size + 1 ≤ _ by first | omega | (simp; done) | (simp; omega)))
          have lr_X1 := Lib.hid (rdb_lo r_X1_2.out)
          have hr_X1 := Lib.hid (rdb_hi r_X1_2.out)
          have ac_C0_2 := fun o => cell_b (c_C0_2) (below_alloc _ o)
          have bc_C0_2 := fun o o1 => cell_b (ac_C0_2 o) (below_alloc _ o1)
          have ac_C1_2 := fun o => cell_b (c_C1_2) (below_alloc _ o)
          have bc_C1_2 := fun o o1 => cell_b (ac_C1_2 o) (below_alloc _ o1)
          have af_C0_2 := fun o => frz_b (cell_lt (c_C0_2)) (f_C0_2) (below_alloc _ o)
          have bf_C0_2 := fun o o1 => frz_b (cell_lt (ac_C0_2 o)) (af_C0_2 o) (below_alloc _ o1)
          have af_C1_2 := fun o => frz_b (cell_lt (c_C1_2)) (f_C1_2) (below_alloc _ o)
          have bf_C1_2 := fun o o1 => frz_b (cell_lt (ac_C1_2 o)) (af_C1_2 o) (below_alloc _ o1)
          clear hb r_c_1 T_1 hX0 hX1
          go_wp2_with fail
          (with_reducible refine (S_AddGroup_q _ (c) _ (xs) (t) (c + t) (xs) (([] : List Int)) (true) ((xs).length) (0) (rdb_rd (rdb_b (r_c_2.out) (below_alloc _ _))) (by first | omega | (simp; done) | (simp; omega)) HQ2.out HQ3.out HQ4.out HQ5.out rfl rfl).mono ?_)
          rintro e w3 ⟨aY0, cY0, aY1, cY1, rfl, hY0, hY1, hb⟩
          have c_C0_3 := cell_b (cell_b (c_C0_2) (below_alloc _ _)) hb
          have c_C1_3 := cell_b (cell_b (c_C1_2) (below_alloc _ _)) hb
          have f_C0_3 := frz_b (cell_lt (cell_b (c_C0_2) (below_alloc _ _))) (frz_b (cell_lt (c_C0_2)) (f_C0_2) (below_alloc _ _)) hb
          have f_C1_3 := frz_b (cell_lt (cell_b (c_C1_2) (below_alloc _ _))) (frz_b (cell_lt (c_C1_2)) (f_C1_2) (below_alloc _ _)) hb
          have c_X0_3 := cell_b (p := ⟨w2.heap.size, 0, none⟩) (v := .int .i64 (c + t)) (by simp) hb
          have c_X1_3 := cell_b (p := ⟨w2.heap.size, 1, none⟩) (v := .slice aX0 ((xs).length) cX0) (by simp) hb
          have r_c_3 := Lib.hid (rdb_b (rdb_b (r_c_2.out) (below_alloc _ _)) hb)
          have r_X0_3 := Lib.hid (rdb_b (rdb_b (r_X0_2.out) (below_alloc _ _)) hb)
          have r_X1_3 := Lib.hid (rdb_b (rdb_b (r_X1_2.out) (below_alloc _ _)) hb)
          have T_3 := Lib.hid (below_trans (below_trans (T_2.out) (below_alloc _ _)) hb)
          have z_3 : w2.heap.size + 1 ≤ w3.heap.size := (by have := hb.size; (try simp at this); omega)
          have r_Y0_3 := Lib.hid (rdb_mono hY0 (show w2.heap.size + 1 ≤ _ by first | omega | (simp; done) | (simp; omega)))
          have lr_Y0 := Lib.hid (rdb_lo r_Y0_3.out)
          have hr_Y0 := Lib.hid (rdb_hi r_Y0_3.out)
          have r_Y1_3 := Lib.hid (rdb_mono hY1 (show w2.heap.size + 1 ≤ _ by first | omega | (simp; done) | (simp; omega)))
          have lr_Y1 := Lib.hid (rdb_lo r_Y1_3.out)
          have hr_Y1 := Lib.hid (rdb_hi r_Y1_3.out)
          have ac_C0_3 := fun o => cell_b (c_C0_3) (below_alloc _ o)
          have bc_C0_3 := fun o o1 => cell_b (ac_C0_3 o) (below_alloc _ o1)
          have ac_C1_3 := fun o => cell_b (c_C1_3) (below_alloc _ o)
          have bc_C1_3 := fun o o1 => cell_b (ac_C1_3 o) (below_alloc _ o1)
          have ac_X0_3 := fun o => cell_b (c_X0_3) (below_alloc _ o)
          have bc_X0_3 := fun o o1 => cell_b (ac_X0_3 o) (below_alloc _ o1)
          have ac_X1_3 := fun o => cell_b (c_X1_3) (below_alloc _ o)
          have bc_X1_3 := fun o o1 => cell_b (ac_X1_3 o) (below_alloc _ o1)
          have af_C0_3 := fun o => frz_b (cell_lt (c_C0_3)) (f_C0_3) (below_alloc _ o)
          have bf_C0_3 := fun o o1 => frz_b (cell_lt (ac_C0_3 o)) (af_C0_3 o) (below_alloc _ o1)
          have af_C1_3 := fun o => frz_b (cell_lt (c_C1_3)) (f_C1_3) (below_alloc _ o)
          have bf_C1_3 := fun o o1 => frz_b (cell_lt (ac_C1_3 o)) (af_C1_3 o) (below_alloc _ o1)
          clear hb c_C0_2 c_C1_2 f_C0_2 f_C1_2 r_c_2 r_X0_2 r_X1_2 T_2 ac_C0_2 bc_C0_2 ac_C1_2 bc_C1_2 af_C0_2 bf_C0_2 af_C1_2 bf_C1_2 hY0 hY1
          go_wp2_with fail
          (with_reducible refine (I_GroupSame_q _ (c + t) (c + t) _ (xs) _ (xs) true (rdb_rd (rdb_b (r_X0_3.out) (below_alloc _ _))) (rdb_rd (rdb_b (r_Y0_3.out) (below_alloc _ _))) (by first | omega | (simp; done) | (simp; omega)) (by first | omega | (simp; done) | (simp; omega)) (by simp [eqB_self])).mono ?_)
          rintro e w4 ⟨rfl, hb⟩
          have c_C0_4 := cell_b (cell_b (c_C0_3) (below_alloc _ _)) hb
          have c_C1_4 := cell_b (cell_b (c_C1_3) (below_alloc _ _)) hb
          have c_X0_4 := cell_b (cell_b (c_X0_3) (below_alloc _ _)) hb
          have c_X1_4 := cell_b (cell_b (c_X1_3) (below_alloc _ _)) hb
          have f_C0_4 := frz_b (cell_lt (cell_b (c_C0_3) (below_alloc _ _))) (frz_b (cell_lt (c_C0_3)) (f_C0_3) (below_alloc _ _)) hb
          have f_C1_4 := frz_b (cell_lt (cell_b (c_C1_3) (below_alloc _ _))) (frz_b (cell_lt (c_C1_3)) (f_C1_3) (below_alloc _ _)) hb
          have c_Y0_4 := cell_b (p := ⟨w3.heap.size, 0, none⟩) (v := .int .i64 (c + t)) (by simp) hb
          have c_Y1_4 := cell_b (p := ⟨w3.heap.size, 1, none⟩) (v := .slice aY0 ((xs).length) cY0) (by simp) hb
          have r_c_4 := Lib.hid (rdb_b (rdb_b (r_c_3.out) (below_alloc _ _)) hb)
          have r_X0_4 := Lib.hid (rdb_b (rdb_b (r_X0_3.out) (below_alloc _ _)) hb)
          have r_X1_4 := Lib.hid (rdb_b (rdb_b (r_X1_3.out) (below_alloc _ _)) hb)
          have r_Y0_4 := Lib.hid (rdb_b (rdb_b (r_Y0_3.out) (below_alloc _ _)) hb)
          have r_Y1_4 := Lib.hid (rdb_b (rdb_b (r_Y1_3.out) (below_alloc _ _)) hb)
          have T_4 := Lib.hid (below_trans (below_trans (T_3.out) (below_alloc _ _)) hb)
          have z_4 : w3.heap.size + 1 ≤ w4.heap.size := (by have := hb.size; (try simp at this); omega)
          have ac_C0_4 := fun o => cell_b (c_C0_4) (below_alloc _ o)
          have bc_C0_4 := fun o o1 => cell_b (ac_C0_4 o) (below_alloc _ o1)
          have ac_C1_4 := fun o => cell_b (c_C1_4) (below_alloc _ o)
          have bc_C1_4 := fun o o1 => cell_b (ac_C1_4 o) (below_alloc _ o1)
          have ac_X0_4 := fun o => cell_b (c_X0_4) (below_alloc _ o)
          have bc_X0_4 := fun o o1 => cell_b (ac_X0_4 o) (below_alloc _ o1)
          have ac_X1_4 := fun o => cell_b (c_X1_4) (below_alloc _ o)
          have bc_X1_4 := fun o o1 => cell_b (ac_X1_4 o) (below_alloc _ o1)
          have ac_Y0_4 := fun o => cell_b (c_Y0_4) (below_alloc _ o)
          have bc_Y0_4 := fun o o1 => cell_b (ac_Y0_4 o) (below_alloc _ o1)
          have ac_Y1_4 := fun o => cell_b (c_Y1_4) (below_alloc _ o)
          have bc_Y1_4 := fun o o1 => cell_b (ac_Y1_4 o) (below_alloc _ o1)
          have af_C0_4 := fun o => frz_b (cell_lt (c_C0_4)) (f_C0_4) (below_alloc _ o)
          have bf_C0_4 := fun o o1 => frz_b (cell_lt (ac_C0_4 o)) (af_C0_4 o) (below_alloc _ o1)
          have af_C1_4 := fun o => frz_b (cell_lt (c_C1_4)) (f_C1_4) (below_alloc _ o)
          have bf_C1_4 := fun o o1 => frz_b (cell_lt (ac_C1_4 o)) (af_C1_4 o) (below_alloc _ o1)
          clear hb c_C0_3 c_C1_3 c_X0_3 c_X1_3 f_C0_3 f_C1_3 r_c_3 r_X0_3 r_X1_3 r_Y0_3 r_Y1_3 T_3 ac_C0_3 bc_C0_3 ac_C1_3 bc_C1_3 ac_X0_3 bc_X0_3 ac_X1_3 bc_X1_3 af_C0_3 bf_C0_3 af_C1_3 bf_C1_3
          go_wp2_with fail
          (with_reducible refine (eqB_true (drew_b (L_wkInts _ _ _ (([] : List Int)) (([] : List Int)) (rdb_rd (r_X1_4.out)) (rdb_rd (r_Y1_4.out)) (by first | omega | (simp; done) | (simp; omega)) (by first | omega | (simp; done) | (simp; omega))))).mono ?_)
          rintro e w5 ⟨rfl, hb⟩
          have c_C0_5 := cell_b (c_C0_4) hb
          have c_C1_5 := cell_b (c_C1_4) hb
          have c_X0_5 := cell_b (c_X0_4) hb
          have c_X1_5 := cell_b (c_X1_4) hb
          have c_Y0_5 := cell_b (c_Y0_4) hb
          have c_Y1_5 := cell_b (c_Y1_4) hb
          have f_C0_5 := frz_b (cell_lt (c_C0_4)) (f_C0_4) hb
          have f_C1_5 := frz_b (cell_lt (c_C1_4)) (f_C1_4) hb
          have r_c_5 := Lib.hid (rdb_b (r_c_4.out) hb)
          have r_X0_5 := Lib.hid (rdb_b (r_X0_4.out) hb)
          have r_X1_5 := Lib.hid (rdb_b (r_X1_4.out) hb)
          have r_Y0_5 := Lib.hid (rdb_b (r_Y0_4.out) hb)
          have r_Y1_5 := Lib.hid (rdb_b (r_Y1_4.out) hb)
          have T_5 := Lib.hid (below_trans (T_4.out) hb)
          have z_5 : w4.heap.size ≤ w5.heap.size := (by have := hb.size; (try simp at this); omega)
          have ac_C0_5 := fun o => cell_b (c_C0_5) (below_alloc _ o)
          have bc_C0_5 := fun o o1 => cell_b (ac_C0_5 o) (below_alloc _ o1)
          have ac_C1_5 := fun o => cell_b (c_C1_5) (below_alloc _ o)
          have bc_C1_5 := fun o o1 => cell_b (ac_C1_5 o) (below_alloc _ o1)
          have ac_X0_5 := fun o => cell_b (c_X0_5) (below_alloc _ o)
          have bc_X0_5 := fun o o1 => cell_b (ac_X0_5 o) (below_alloc _ o1)
          have ac_X1_5 := fun o => cell_b (c_X1_5) (below_alloc _ o)
          have bc_X1_5 := fun o o1 => cell_b (ac_X1_5 o) (below_alloc _ o1)
          have ac_Y0_5 := fun o => cell_b (c_Y0_5) (below_alloc _ o)
          have bc_Y0_5 := fun o o1 => cell_b (ac_Y0_5 o) (below_alloc _ o1)
          have ac_Y1_5 := fun o => cell_b (c_Y1_5) (below_alloc _ o)
          have bc_Y1_5 := fun o o1 => cell_b (ac_Y1_5 o) (below_alloc _ o1)
          have af_C0_5 := fun o => frz_b (cell_lt (c_C0_5)) (f_C0_5) (below_alloc _ o)
          have bf_C0_5 := fun o o1 => frz_b (cell_lt (ac_C0_5 o)) (af_C0_5 o) (below_alloc _ o1)
          have af_C1_5 := fun o => frz_b (cell_lt (c_C1_5)) (f_C1_5) (below_alloc _ o)
          have bf_C1_5 := fun o o1 => frz_b (cell_lt (ac_C1_5 o)) (af_C1_5 o) (below_alloc _ o1)
          clear hb c_C0_4 c_C1_4 c_X0_4 c_X1_4 c_Y0_4 c_Y1_4 f_C0_4 f_C1_4 r_c_4 r_X0_4 r_X1_4 r_Y0_4 r_Y1_4 T_4 ac_C0_4 bc_C0_4 ac_C1_4 bc_C1_4 ac_X0_4 bc_X0_4 ac_X1_4 bc_X1_4 ac_Y0_4 bc_Y0_4 ac_Y1_4 bc_Y1_4 af_C0_4 bf_C0_4 af_C1_4 bf_C1_4
          clear c_Y0_5 ac_Y0_5 bc_Y0_5 c_Y1_5 ac_Y1_5 bc_Y1_5 r_Y0_5 lr_Y0 hr_Y0 r_Y1_5 lr_Y1 hr_Y1
          obtain ⟨z, Q, hq1, hq2⟩ := addG_half (h := h) HV1.out hz hh1 hh2
          have HQ1 := Lib.hid hq1
          clear hq1 hh3
          have HZ : Hid (addG (c) (xs) (h) = (z, Q, ([] : List Int), true)) := Lib.hid (HQ1.out.1)
          have HQ6 : Hid ((addG (c) (xs) (h)).1 = z) := Lib.hid (by rw [HZ.out])
          have HQ7 : Hid ((addG (c) (xs) (h)).2.1 = Q) := Lib.hid (by rw [HZ.out])
          have HQ8 : Hid ((addG (c) (xs) (h)).2.2.1 = ([] : List Int)) := Lib.hid (by rw [HZ.out])
          have HQ9 : Hid ((addG (c) (xs) (h)).2.2.2 = true) := Lib.hid (by rw [HZ.out])
          go_wp2_with fail
          (with_reducible refine (I_AddGroup_q _ (c) _ (xs) (h) (z) (Q) (([] : List Int)) (true) ((Q).length) (0) (rdb_rd (r_c_5.out)) (by first | omega | (simp; done) | (simp; omega)) HQ6.out HQ7.out HQ8.out HQ9.out rfl rfl).mono ?_)
          rintro e w6 ⟨aZ0, cZ0, aZ1, cZ1, rfl, hZ0, hZ1, hb⟩
          have c_C0_6 := cell_b (c_C0_5) hb
          have c_C1_6 := cell_b (c_C1_5) hb
          have c_X0_6 := cell_b (c_X0_5) hb
          have c_X1_6 := cell_b (c_X1_5) hb
          have f_C0_6 := frz_b (cell_lt (c_C0_5)) (f_C0_5) hb
          have f_C1_6 := frz_b (cell_lt (c_C1_5)) (f_C1_5) hb
          have r_c_6 := Lib.hid (rdb_b (r_c_5.out) hb)
          have r_X0_6 := Lib.hid (rdb_b (r_X0_5.out) hb)
          have r_X1_6 := Lib.hid (rdb_b (r_X1_5.out) hb)
          have T_6 := Lib.hid (below_trans (T_5.out) hb)
          have z_6 : w5.heap.size ≤ w6.heap.size := (by have := hb.size; (try simp at this); omega)
          have r_Z0_6 := Lib.hid (rdb_mono hZ0 (show w5.heap.size ≤ _ by first | omega | (simp; done) | (simp; omega)))
          have lr_Z0 := Lib.hid (rdb_lo r_Z0_6.out)
          have hr_Z0 := Lib.hid (rdb_hi r_Z0_6.out)
          have r_Z1_6 := Lib.hid (rdb_mono hZ1 (show w5.heap.size ≤ _ by first | omega | (simp; done) | (simp; omega)))
          have lr_Z1 := Lib.hid (rdb_lo r_Z1_6.out)
          have hr_Z1 := Lib.hid (rdb_hi r_Z1_6.out)
          have ac_C0_6 := fun o => cell_b (c_C0_6) (below_alloc _ o)
          have bc_C0_6 := fun o o1 => cell_b (ac_C0_6 o) (below_alloc _ o1)
          have ac_C1_6 := fun o => cell_b (c_C1_6) (below_alloc _ o)
          have bc_C1_6 := fun o o1 => cell_b (ac_C1_6 o) (below_alloc _ o1)
          have ac_X0_6 := fun o => cell_b (c_X0_6) (below_alloc _ o)
          have bc_X0_6 := fun o o1 => cell_b (ac_X0_6 o) (below_alloc _ o1)
          have ac_X1_6 := fun o => cell_b (c_X1_6) (below_alloc _ o)
          have bc_X1_6 := fun o o1 => cell_b (ac_X1_6 o) (below_alloc _ o1)
          have af_C0_6 := fun o => frz_b (cell_lt (c_C0_6)) (f_C0_6) (below_alloc _ o)
          have bf_C0_6 := fun o o1 => frz_b (cell_lt (ac_C0_6 o)) (af_C0_6 o) (below_alloc _ o1)
          have af_C1_6 := fun o => frz_b (cell_lt (c_C1_6)) (f_C1_6) (below_alloc _ o)
          have bf_C1_6 := fun o o1 => frz_b (cell_lt (ac_C1_6 o)) (af_C1_6 o) (below_alloc _ o1)
          clear hb c_C0_5 c_C1_5 c_X0_5 c_X1_5 f_C0_5 f_C1_5 r_c_5 r_X0_5 r_X1_5 T_5 ac_C0_5 bc_C0_5 ac_C1_5 bc_C1_5 ac_X0_5 bc_X0_5 ac_X1_5 bc_X1_5 af_C0_5 bf_C0_5 af_C1_5 bf_C1_5 hZ0 hZ1
          have HV : Hid (addG (z) (Q) (t - h) = (c + t, xs, ([] : List Int), true)) := Lib.hid (HQ1.out.2)
          have HQ10 : Hid ((addG (z) (Q) (t - h)).1 = c + t) := Lib.hid (by rw [HV.out])
          have HQ11 : Hid ((addG (z) (Q) (t - h)).2.1 = xs) := Lib.hid (by rw [HV.out])
          have HQ12 : Hid ((addG (z) (Q) (t - h)).2.2.1 = ([] : List Int)) := Lib.hid (by rw [HV.out])
          have HQ13 : Hid ((addG (z) (Q) (t - h)).2.2.2 = true) := Lib.hid (by rw [HV.out])
          go_wp2_with fail
          (with_reducible refine (I_AddGroup_q _ (z) _ (Q) (t - h) (c + t) (xs) (([] : List Int)) (true) ((xs).length) (0) (rdb_rd (rdb_b (r_Z0_6.out) (below_alloc _ _))) (by first | omega | (simp; done) | (simp; omega)) HQ10.out HQ11.out HQ12.out HQ13.out rfl rfl).mono ?_)
          rintro e w7 ⟨aV0, cV0, aV1, cV1, rfl, hV0, hV1, hb⟩
          have c_C0_7 := cell_b (cell_b (c_C0_6) (below_alloc _ _)) hb
          have c_C1_7 := cell_b (cell_b (c_C1_6) (below_alloc _ _)) hb
          have c_X0_7 := cell_b (cell_b (c_X0_6) (below_alloc _ _)) hb
          have c_X1_7 := cell_b (cell_b (c_X1_6) (below_alloc _ _)) hb
          have f_C0_7 := frz_b (cell_lt (cell_b (c_C0_6) (below_alloc _ _))) (frz_b (cell_lt (c_C0_6)) (f_C0_6) (below_alloc _ _)) hb
          have f_C1_7 := frz_b (cell_lt (cell_b (c_C1_6) (below_alloc _ _))) (frz_b (cell_lt (c_C1_6)) (f_C1_6) (below_alloc _ _)) hb
          have c_Z0_7 := cell_b (p := ⟨w6.heap.size, 0, none⟩) (v := .int .i64 (z)) (by simp) hb
          have c_Z1_7 := cell_b (p := ⟨w6.heap.size, 1, none⟩) (v := .slice aZ0 ((Q).length) cZ0) (by simp) hb
          have r_c_7 := Lib.hid (rdb_b (rdb_b (r_c_6.out) (below_alloc _ _)) hb)
          have r_X0_7 := Lib.hid (rdb_b (rdb_b (r_X0_6.out) (below_alloc _ _)) hb)
          have r_X1_7 := Lib.hid (rdb_b (rdb_b (r_X1_6.out) (below_alloc _ _)) hb)
          have r_Z0_7 := Lib.hid (rdb_b (rdb_b (r_Z0_6.out) (below_alloc _ _)) hb)
          have r_Z1_7 := Lib.hid (rdb_b (rdb_b (r_Z1_6.out) (below_alloc _ _)) hb)
          have T_7 := Lib.hid (below_trans (below_trans (T_6.out) (below_alloc _ _)) hb)
          have z_7 : w6.heap.size + 1 ≤ w7.heap.size := (by have := hb.size; (try simp at this); omega)
          have r_V0_7 := Lib.hid (rdb_mono hV0 (show w6.heap.size + 1 ≤ _ by first | omega | (simp; done) | (simp; omega)))
          have lr_V0 := Lib.hid (rdb_lo r_V0_7.out)
          have hr_V0 := Lib.hid (rdb_hi r_V0_7.out)
          have r_V1_7 := Lib.hid (rdb_mono hV1 (show w6.heap.size + 1 ≤ _ by first | omega | (simp; done) | (simp; omega)))
          have lr_V1 := Lib.hid (rdb_lo r_V1_7.out)
          have hr_V1 := Lib.hid (rdb_hi r_V1_7.out)
          have ac_C0_7 := fun o => cell_b (c_C0_7) (below_alloc _ o)
          have bc_C0_7 := fun o o1 => cell_b (ac_C0_7 o) (below_alloc _ o1)
          have ac_C1_7 := fun o => cell_b (c_C1_7) (below_alloc _ o)
          have bc_C1_7 := fun o o1 => cell_b (ac_C1_7 o) (below_alloc _ o1)
          have ac_X0_7 := fun o => cell_b (c_X0_7) (below_alloc _ o)
          have bc_X0_7 := fun o o1 => cell_b (ac_X0_7 o) (below_alloc _ o1)
          have ac_X1_7 := fun o => cell_b (c_X1_7) (below_alloc _ o)
          have bc_X1_7 := fun o o1 => cell_b (ac_X1_7 o) (below_alloc _ o1)
          have ac_Z0_7 := fun o => cell_b (c_Z0_7) (below_alloc _ o)
          have bc_Z0_7 := fun o o1 => cell_b (ac_Z0_7 o) (below_alloc _ o1)
          have ac_Z1_7 := fun o => cell_b (c_Z1_7) (below_alloc _ o)
          have bc_Z1_7 := fun o o1 => cell_b (ac_Z1_7 o) (below_alloc _ o1)
          have af_C0_7 := fun o => frz_b (cell_lt (c_C0_7)) (f_C0_7) (below_alloc _ o)
          have bf_C0_7 := fun o o1 => frz_b (cell_lt (ac_C0_7 o)) (af_C0_7 o) (below_alloc _ o1)
          have af_C1_7 := fun o => frz_b (cell_lt (c_C1_7)) (f_C1_7) (below_alloc _ o)
          have bf_C1_7 := fun o o1 => frz_b (cell_lt (ac_C1_7 o)) (af_C1_7 o) (below_alloc _ o1)
          clear hb c_C0_6 c_C1_6 c_X0_6 c_X1_6 f_C0_6 f_C1_6 r_c_6 r_X0_6 r_X1_6 r_Z0_6 r_Z1_6 T_6 ac_C0_6 bc_C0_6 ac_C1_6 bc_C1_6 ac_X0_6 bc_X0_6 ac_X1_6 bc_X1_6 af_C0_6 bf_C0_6 af_C1_6 bf_C1_6 hV0 hV1
          go_wp2_with fail
          (with_reducible refine (I_GroupSame_q _ (c + t) (c + t) _ (xs) _ (xs) true (rdb_rd (rdb_b (r_V0_7.out) (below_alloc _ _))) (rdb_rd (rdb_b (r_X0_7.out) (below_alloc _ _))) (by first | omega | (simp; done) | (simp; omega)) (by first | omega | (simp; done) | (simp; omega)) (by simp [eqB_self])).mono ?_)
          rintro e w8 ⟨rfl, hb⟩
          have c_C0_8 := cell_b (cell_b (c_C0_7) (below_alloc _ _)) hb
          have c_C1_8 := cell_b (cell_b (c_C1_7) (below_alloc _ _)) hb
          have c_X0_8 := cell_b (cell_b (c_X0_7) (below_alloc _ _)) hb
          have c_X1_8 := cell_b (cell_b (c_X1_7) (below_alloc _ _)) hb
          have c_Z0_8 := cell_b (cell_b (c_Z0_7) (below_alloc _ _)) hb
          have c_Z1_8 := cell_b (cell_b (c_Z1_7) (below_alloc _ _)) hb
          have f_C0_8 := frz_b (cell_lt (cell_b (c_C0_7) (below_alloc _ _))) (frz_b (cell_lt (c_C0_7)) (f_C0_7) (below_alloc _ _)) hb
          have f_C1_8 := frz_b (cell_lt (cell_b (c_C1_7) (below_alloc _ _))) (frz_b (cell_lt (c_C1_7)) (f_C1_7) (below_alloc _ _)) hb
          have c_V0_8 := cell_b (p := ⟨w7.heap.size, 0, none⟩) (v := .int .i64 (c + t)) (by simp) hb
          have c_V1_8 := cell_b (p := ⟨w7.heap.size, 1, none⟩) (v := .slice aV0 ((xs).length) cV0) (by simp) hb
          have r_c_8 := Lib.hid (rdb_b (rdb_b (r_c_7.out) (below_alloc _ _)) hb)
          have r_X0_8 := Lib.hid (rdb_b (rdb_b (r_X0_7.out) (below_alloc _ _)) hb)
          have r_X1_8 := Lib.hid (rdb_b (rdb_b (r_X1_7.out) (below_alloc _ _)) hb)
          have r_Z0_8 := Lib.hid (rdb_b (rdb_b (r_Z0_7.out) (below_alloc _ _)) hb)
          have r_Z1_8 := Lib.hid (rdb_b (rdb_b (r_Z1_7.out) (below_alloc _ _)) hb)
          have r_V0_8 := Lib.hid (rdb_b (rdb_b (r_V0_7.out) (below_alloc _ _)) hb)
          have r_V1_8 := Lib.hid (rdb_b (rdb_b (r_V1_7.out) (below_alloc _ _)) hb)
          have T_8 := Lib.hid (below_trans (below_trans (T_7.out) (below_alloc _ _)) hb)
          have z_8 : w7.heap.size + 1 ≤ w8.heap.size := (by have := hb.size; (try simp at this); omega)
          have ac_C0_8 := fun o => cell_b (c_C0_8) (below_alloc _ o)
          have bc_C0_8 := fun o o1 => cell_b (ac_C0_8 o) (below_alloc _ o1)
          have ac_C1_8 := fun o => cell_b (c_C1_8) (below_alloc _ o)
          have bc_C1_8 := fun o o1 => cell_b (ac_C1_8 o) (below_alloc _ o1)
          have ac_X0_8 := fun o => cell_b (c_X0_8) (below_alloc _ o)
          have bc_X0_8 := fun o o1 => cell_b (ac_X0_8 o) (below_alloc _ o1)
          have ac_X1_8 := fun o => cell_b (c_X1_8) (below_alloc _ o)
          have bc_X1_8 := fun o o1 => cell_b (ac_X1_8 o) (below_alloc _ o1)
          have ac_Z0_8 := fun o => cell_b (c_Z0_8) (below_alloc _ o)
          have bc_Z0_8 := fun o o1 => cell_b (ac_Z0_8 o) (below_alloc _ o1)
          have ac_Z1_8 := fun o => cell_b (c_Z1_8) (below_alloc _ o)
          have bc_Z1_8 := fun o o1 => cell_b (ac_Z1_8 o) (below_alloc _ o1)
          have ac_V0_8 := fun o => cell_b (c_V0_8) (below_alloc _ o)
          have bc_V0_8 := fun o o1 => cell_b (ac_V0_8 o) (below_alloc _ o1)
          have ac_V1_8 := fun o => cell_b (c_V1_8) (below_alloc _ o)
          have bc_V1_8 := fun o o1 => cell_b (ac_V1_8 o) (below_alloc _ o1)
          have af_C0_8 := fun o => frz_b (cell_lt (c_C0_8)) (f_C0_8) (below_alloc _ o)
          have bf_C0_8 := fun o o1 => frz_b (cell_lt (ac_C0_8 o)) (af_C0_8 o) (below_alloc _ o1)
          have af_C1_8 := fun o => frz_b (cell_lt (c_C1_8)) (f_C1_8) (below_alloc _ o)
          have bf_C1_8 := fun o o1 => frz_b (cell_lt (ac_C1_8 o)) (af_C1_8 o) (below_alloc _ o1)
          clear hb c_C0_7 c_C1_7 c_X0_7 c_X1_7 c_Z0_7 c_Z1_7 f_C0_7 f_C1_7 r_c_7 r_X0_7 r_X1_7 r_Z0_7 r_Z1_7 r_V0_7 r_V1_7 T_7 ac_C0_7 bc_C0_7 ac_C1_7 bc_C1_7 ac_X0_7 bc_X0_7 ac_X1_7 bc_X1_7 ac_Z0_7 bc_Z0_7 ac_Z1_7 bc_Z1_7 af_C0_7 bf_C0_7 af_C1_7 bf_C1_7
          go_wp2_with fail
          go_ret
          exact ⟨rfl, (T_8.out)⟩
    · have HV1 : Hid (addOk c xs t = false) := Lib.hid (by simpa using hok)
      clear hok
      have HT1 : Hid (addG (c) xs (t) = (0, ([] : List Int), ([] : List Int), false)) := Lib.hid (by rw [addG_eq, if_neg (by rw [HV1.out]; simp)])
      have HQ2 : Hid ((addG (c) xs (t)).1 = 0) := Lib.hid (by rw [HT1.out])
      have HQ3 : Hid ((addG (c) xs (t)).2.1 = ([] : List Int)) := Lib.hid (by rw [HT1.out])
      have HQ4 : Hid ((addG (c) xs (t)).2.2.1 = ([] : List Int)) := Lib.hid (by rw [HT1.out])
      have HQ5 : Hid ((addG (c) xs (t)).2.2.2 = false) := Lib.hid (by rw [HT1.out])
      go_wp2_with fail
      (with_reducible refine (I_AddGroup_q _ (c) _ (xs) (t) (0) (([] : List Int)) (([] : List Int)) (false) (0) (0) (rdb_rd (rdb_b (r_c_1.out) (below_alloc _ _))) (by first | omega | (simp; done) | (simp; omega)) HQ2.out HQ3.out HQ4.out HQ5.out rfl rfl).mono ?_)
      rintro e w2 ⟨aX0, cX0, aX1, cX1, rfl, hX0, hX1, hb⟩
      have c_C0_2 := cell_b (p := ⟨w1.heap.size, 0, none⟩) (v := .int .i64 c) (by simp) hb
      have f_C0_2 := frz_b (p := ⟨w1.heap.size, 0, none⟩) (by first | omega | (simp; done) | (simp; omega)) (show _ = false by simp) hb
      have c_C1_2 := cell_b (p := ⟨w1.heap.size, 1, none⟩) (v := .slice a1 xs.length c1) (by simp) hb
      have f_C1_2 := frz_b (p := ⟨w1.heap.size, 1, none⟩) (by first | omega | (simp; done) | (simp; omega)) (show _ = false by simp) hb
      have r_c_2 := Lib.hid (rdb_b (rdb_b (r_c_1.out) (below_alloc _ _)) hb)
      have T_2 := Lib.hid (below_trans (below_trans (T_1.out) (below_alloc _ _)) hb)
      have z_2 : w1.heap.size + 1 ≤ w2.heap.size := (by have := hb.size; (try simp at this); omega)
      have r_X0_2 := Lib.hid (rdb_mono hX0 (show w1.heap.size + 1 ≤ _ by first | omega | (simp; done) | (simp; omega)))
      have lr_X0 := Lib.hid (rdb_lo r_X0_2.out)
      have hr_X0 := Lib.hid (rdb_hi r_X0_2.out)
      have r_X1_2 := Lib.hid (rdb_mono hX1 (show w1.heap.size + 1 ≤ _ by first | omega | (simp; done) | (simp; omega)))
      have lr_X1 := Lib.hid (rdb_lo r_X1_2.out)
      have hr_X1 := Lib.hid (rdb_hi r_X1_2.out)
      have ac_C0_2 := fun o => cell_b (c_C0_2) (below_alloc _ o)
      have bc_C0_2 := fun o o1 => cell_b (ac_C0_2 o) (below_alloc _ o1)
      have ac_C1_2 := fun o => cell_b (c_C1_2) (below_alloc _ o)
      have bc_C1_2 := fun o o1 => cell_b (ac_C1_2 o) (below_alloc _ o1)
      have af_C0_2 := fun o => frz_b (cell_lt (c_C0_2)) (f_C0_2) (below_alloc _ o)
      have bf_C0_2 := fun o o1 => frz_b (cell_lt (ac_C0_2 o)) (af_C0_2 o) (below_alloc _ o1)
      have af_C1_2 := fun o => frz_b (cell_lt (c_C1_2)) (f_C1_2) (below_alloc _ o)
      have bf_C1_2 := fun o o1 => frz_b (cell_lt (ac_C1_2 o)) (af_C1_2 o) (below_alloc _ o1)
      clear hb r_c_1 T_1 hX0 hX1
      go_wp2_with fail
      (with_reducible refine (S_AddGroup_q _ (c) _ (xs) (t) (0) (([] : List Int)) (([] : List Int)) (false) (0) (0) (rdb_rd (rdb_b (r_c_2.out) (below_alloc _ _))) (by first | omega | (simp; done) | (simp; omega)) HQ2.out HQ3.out HQ4.out HQ5.out rfl rfl).mono ?_)
      rintro e w3 ⟨aY0, cY0, aY1, cY1, rfl, hY0, hY1, hb⟩
      have c_C0_3 := cell_b (cell_b (c_C0_2) (below_alloc _ _)) hb
      have c_C1_3 := cell_b (cell_b (c_C1_2) (below_alloc _ _)) hb
      have f_C0_3 := frz_b (cell_lt (cell_b (c_C0_2) (below_alloc _ _))) (frz_b (cell_lt (c_C0_2)) (f_C0_2) (below_alloc _ _)) hb
      have f_C1_3 := frz_b (cell_lt (cell_b (c_C1_2) (below_alloc _ _))) (frz_b (cell_lt (c_C1_2)) (f_C1_2) (below_alloc _ _)) hb
      have c_X0_3 := cell_b (p := ⟨w2.heap.size, 0, none⟩) (v := .int .i64 (0)) (by simp) hb
      have c_X1_3 := cell_b (p := ⟨w2.heap.size, 1, none⟩) (v := .slice aX0 (0) cX0) (by simp) hb
      have r_c_3 := Lib.hid (rdb_b (rdb_b (r_c_2.out) (below_alloc _ _)) hb)
      have r_X0_3 := Lib.hid (rdb_b (rdb_b (r_X0_2.out) (below_alloc _ _)) hb)
      have r_X1_3 := Lib.hid (rdb_b (rdb_b (r_X1_2.out) (below_alloc _ _)) hb)
      have T_3 := Lib.hid (below_trans (below_trans (T_2.out) (below_alloc _ _)) hb)
      have z_3 : w2.heap.size + 1 ≤ w3.heap.size := (by have := hb.size; (try simp at this); omega)
      have r_Y0_3 := Lib.hid (rdb_mono hY0 (show w2.heap.size + 1 ≤ _ by first | omega | (simp; done) | (simp; omega)))
      have lr_Y0 := Lib.hid (rdb_lo r_Y0_3.out)
      have hr_Y0 := Lib.hid (rdb_hi r_Y0_3.out)
      have r_Y1_3 := Lib.hid (rdb_mono hY1 (show w2.heap.size + 1 ≤ _ by first | omega | (simp; done) | (simp; omega)))
      have lr_Y1 := Lib.hid (rdb_lo r_Y1_3.out)
      have hr_Y1 := Lib.hid (rdb_hi r_Y1_3.out)
      have ac_C0_3 := fun o => cell_b (c_C0_3) (below_alloc _ o)
      have bc_C0_3 := fun o o1 => cell_b (ac_C0_3 o) (below_alloc _ o1)
      have ac_C1_3 := fun o => cell_b (c_C1_3) (below_alloc _ o)
      have bc_C1_3 := fun o o1 => cell_b (ac_C1_3 o) (below_alloc _ o1)
      have ac_X0_3 := fun o => cell_b (c_X0_3) (below_alloc _ o)
      have bc_X0_3 := fun o o1 => cell_b (ac_X0_3 o) (below_alloc _ o1)
      have ac_X1_3 := fun o => cell_b (c_X1_3) (below_alloc _ o)
      have bc_X1_3 := fun o o1 => cell_b (ac_X1_3 o) (below_alloc _ o1)
      have af_C0_3 := fun o => frz_b (cell_lt (c_C0_3)) (f_C0_3) (below_alloc _ o)
      have bf_C0_3 := fun o o1 => frz_b (cell_lt (ac_C0_3 o)) (af_C0_3 o) (below_alloc _ o1)
      have af_C1_3 := fun o => frz_b (cell_lt (c_C1_3)) (f_C1_3) (below_alloc _ o)
      have bf_C1_3 := fun o o1 => frz_b (cell_lt (ac_C1_3 o)) (af_C1_3 o) (below_alloc _ o1)
      clear hb c_C0_2 c_C1_2 f_C0_2 f_C1_2 r_c_2 r_X0_2 r_X1_2 T_2 ac_C0_2 bc_C0_2 ac_C1_2 bc_C1_2 af_C0_2 bf_C0_2 af_C1_2 bf_C1_2 hY0 hY1
      go_wp2_with fail
      (with_reducible refine (I_GroupSame_q _ (0) (0) _ (([] : List Int)) _ (([] : List Int)) true (rdb_rd (rdb_b (r_X0_3.out) (below_alloc _ _))) (rdb_rd (rdb_b (r_Y0_3.out) (below_alloc _ _))) (by first | omega | (simp; done) | (simp; omega)) (by first | omega | (simp; done) | (simp; omega)) (by simp [eqB_self])).mono ?_)
      rintro e w4 ⟨rfl, hb⟩
      have c_C0_4 := cell_b (cell_b (c_C0_3) (below_alloc _ _)) hb
      have c_C1_4 := cell_b (cell_b (c_C1_3) (below_alloc _ _)) hb
      have c_X0_4 := cell_b (cell_b (c_X0_3) (below_alloc _ _)) hb
      have c_X1_4 := cell_b (cell_b (c_X1_3) (below_alloc _ _)) hb
      have f_C0_4 := frz_b (cell_lt (cell_b (c_C0_3) (below_alloc _ _))) (frz_b (cell_lt (c_C0_3)) (f_C0_3) (below_alloc _ _)) hb
      have f_C1_4 := frz_b (cell_lt (cell_b (c_C1_3) (below_alloc _ _))) (frz_b (cell_lt (c_C1_3)) (f_C1_3) (below_alloc _ _)) hb
      have c_Y0_4 := cell_b (p := ⟨w3.heap.size, 0, none⟩) (v := .int .i64 (0)) (by simp) hb
      have c_Y1_4 := cell_b (p := ⟨w3.heap.size, 1, none⟩) (v := .slice aY0 (0) cY0) (by simp) hb
      have r_c_4 := Lib.hid (rdb_b (rdb_b (r_c_3.out) (below_alloc _ _)) hb)
      have r_X0_4 := Lib.hid (rdb_b (rdb_b (r_X0_3.out) (below_alloc _ _)) hb)
      have r_X1_4 := Lib.hid (rdb_b (rdb_b (r_X1_3.out) (below_alloc _ _)) hb)
      have r_Y0_4 := Lib.hid (rdb_b (rdb_b (r_Y0_3.out) (below_alloc _ _)) hb)
      have r_Y1_4 := Lib.hid (rdb_b (rdb_b (r_Y1_3.out) (below_alloc _ _)) hb)
      have T_4 := Lib.hid (below_trans (below_trans (T_3.out) (below_alloc _ _)) hb)
      have z_4 : w3.heap.size + 1 ≤ w4.heap.size := (by have := hb.size; (try simp at this); omega)
      have ac_C0_4 := fun o => cell_b (c_C0_4) (below_alloc _ o)
      have bc_C0_4 := fun o o1 => cell_b (ac_C0_4 o) (below_alloc _ o1)
      have ac_C1_4 := fun o => cell_b (c_C1_4) (below_alloc _ o)
      have bc_C1_4 := fun o o1 => cell_b (ac_C1_4 o) (below_alloc _ o1)
      have ac_X0_4 := fun o => cell_b (c_X0_4) (below_alloc _ o)
      have bc_X0_4 := fun o o1 => cell_b (ac_X0_4 o) (below_alloc _ o1)
      have ac_X1_4 := fun o => cell_b (c_X1_4) (below_alloc _ o)
      have bc_X1_4 := fun o o1 => cell_b (ac_X1_4 o) (below_alloc _ o1)
      have ac_Y0_4 := fun o => cell_b (c_Y0_4) (below_alloc _ o)
      have bc_Y0_4 := fun o o1 => cell_b (ac_Y0_4 o) (below_alloc _ o1)
      have ac_Y1_4 := fun o => cell_b (c_Y1_4) (below_alloc _ o)
      have bc_Y1_4 := fun o o1 => cell_b (ac_Y1_4 o) (below_alloc _ o1)
      have af_C0_4 := fun o => frz_b (cell_lt (c_C0_4)) (f_C0_4) (below_alloc _ o)
      have bf_C0_4 := fun o o1 => frz_b (cell_lt (ac_C0_4 o)) (af_C0_4 o) (below_alloc _ o1)
      have af_C1_4 := fun o => frz_b (cell_lt (c_C1_4)) (f_C1_4) (below_alloc _ o)
      have bf_C1_4 := fun o o1 => frz_b (cell_lt (ac_C1_4 o)) (af_C1_4 o) (below_alloc _ o1)
      clear hb c_C0_3 c_C1_3 c_X0_3 c_X1_3 f_C0_3 f_C1_3 r_c_3 r_X0_3 r_X1_3 r_Y0_3 r_Y1_3 T_3 ac_C0_3 bc_C0_3 ac_C1_3 bc_C1_3 ac_X0_3 bc_X0_3 ac_X1_3 bc_X1_3 af_C0_3 bf_C0_3 af_C1_3 bf_C1_3
      go_wp2_with fail
      (with_reducible refine (eqB_true (drew_b (L_wkInts _ _ _ (([] : List Int)) (([] : List Int)) (rdb_rd (r_X1_4.out)) (rdb_rd (r_Y1_4.out)) (by first | omega | (simp; done) | (simp; omega)) (by first | omega | (simp; done) | (simp; omega))))).mono ?_)
      rintro e w5 ⟨rfl, hb⟩
      have c_C0_5 := cell_b (c_C0_4) hb
      have c_C1_5 := cell_b (c_C1_4) hb
      have c_X0_5 := cell_b (c_X0_4) hb
      have c_X1_5 := cell_b (c_X1_4) hb
      have c_Y0_5 := cell_b (c_Y0_4) hb
      have c_Y1_5 := cell_b (c_Y1_4) hb
      have f_C0_5 := frz_b (cell_lt (c_C0_4)) (f_C0_4) hb
      have f_C1_5 := frz_b (cell_lt (c_C1_4)) (f_C1_4) hb
      have r_c_5 := Lib.hid (rdb_b (r_c_4.out) hb)
      have r_X0_5 := Lib.hid (rdb_b (r_X0_4.out) hb)
      have r_X1_5 := Lib.hid (rdb_b (r_X1_4.out) hb)
      have r_Y0_5 := Lib.hid (rdb_b (r_Y0_4.out) hb)
      have r_Y1_5 := Lib.hid (rdb_b (r_Y1_4.out) hb)
      have T_5 := Lib.hid (below_trans (T_4.out) hb)
      have z_5 : w4.heap.size ≤ w5.heap.size := (by have := hb.size; (try simp at this); omega)
      have ac_C0_5 := fun o => cell_b (c_C0_5) (below_alloc _ o)
      have bc_C0_5 := fun o o1 => cell_b (ac_C0_5 o) (below_alloc _ o1)
      have ac_C1_5 := fun o => cell_b (c_C1_5) (below_alloc _ o)
      have bc_C1_5 := fun o o1 => cell_b (ac_C1_5 o) (below_alloc _ o1)
      have ac_X0_5 := fun o => cell_b (c_X0_5) (below_alloc _ o)
      have bc_X0_5 := fun o o1 => cell_b (ac_X0_5 o) (below_alloc _ o1)
      have ac_X1_5 := fun o => cell_b (c_X1_5) (below_alloc _ o)
      have bc_X1_5 := fun o o1 => cell_b (ac_X1_5 o) (below_alloc _ o1)
      have ac_Y0_5 := fun o => cell_b (c_Y0_5) (below_alloc _ o)
      have bc_Y0_5 := fun o o1 => cell_b (ac_Y0_5 o) (below_alloc _ o1)
      have ac_Y1_5 := fun o => cell_b (c_Y1_5) (below_alloc _ o)
      have bc_Y1_5 := fun o o1 => cell_b (ac_Y1_5 o) (below_alloc _ o1)
      have af_C0_5 := fun o => frz_b (cell_lt (c_C0_5)) (f_C0_5) (below_alloc _ o)
      have bf_C0_5 := fun o o1 => frz_b (cell_lt (ac_C0_5 o)) (af_C0_5 o) (below_alloc _ o1)
      have af_C1_5 := fun o => frz_b (cell_lt (c_C1_5)) (f_C1_5) (below_alloc _ o)
      have bf_C1_5 := fun o o1 => frz_b (cell_lt (ac_C1_5 o)) (af_C1_5 o) (below_alloc _ o1)
      clear hb c_C0_4 c_C1_4 c_X0_4 c_X1_4 c_Y0_4 c_Y1_4 f_C0_4 f_C1_4 r_c_4 r_X0_4 r_X1_4 r_Y0_4 r_Y1_4 T_4 ac_C0_4 bc_C0_4 ac_C1_4 bc_C1_4 ac_X0_4 bc_X0_4 ac_X1_4 bc_X1_4 ac_Y0_4 bc_Y0_4 ac_Y1_4 bc_Y1_4 af_C0_4 bf_C0_4 af_C1_4 bf_C1_4
      go_wp2_with fail
      (with_reducible refine (I_GroupSame_q _ (0) (0) _ (([] : List Int)) _ (([] : List Int)) true (rdb_rd (r_X0_5.out)) (rdb_rd (r_Y0_5.out)) (by first | omega | (simp; done) | (simp; omega)) (by first | omega | (simp; done) | (simp; omega)) (by simp [eqB_self])).mono ?_)
      rintro e w6 ⟨rfl, hb⟩
      have c_C0_6 := cell_b (c_C0_5) hb
      have c_C1_6 := cell_b (c_C1_5) hb
      have c_X0_6 := cell_b (c_X0_5) hb
      have c_X1_6 := cell_b (c_X1_5) hb
      have c_Y0_6 := cell_b (c_Y0_5) hb
      have c_Y1_6 := cell_b (c_Y1_5) hb
      have f_C0_6 := frz_b (cell_lt (c_C0_5)) (f_C0_5) hb
      have f_C1_6 := frz_b (cell_lt (c_C1_5)) (f_C1_5) hb
      have r_c_6 := Lib.hid (rdb_b (r_c_5.out) hb)
      have r_X0_6 := Lib.hid (rdb_b (r_X0_5.out) hb)
      have r_X1_6 := Lib.hid (rdb_b (r_X1_5.out) hb)
      have r_Y0_6 := Lib.hid (rdb_b (r_Y0_5.out) hb)
      have r_Y1_6 := Lib.hid (rdb_b (r_Y1_5.out) hb)
      have T_6 := Lib.hid (below_trans (T_5.out) hb)
      have z_6 : w5.heap.size ≤ w6.heap.size := (by have := hb.size; (try simp at this); omega)
      have ac_C0_6 := fun o => cell_b (c_C0_6) (below_alloc _ o)
      have bc_C0_6 := fun o o1 => cell_b (ac_C0_6 o) (below_alloc _ o1)
      have ac_C1_6 := fun o => cell_b (c_C1_6) (below_alloc _ o)
      have bc_C1_6 := fun o o1 => cell_b (ac_C1_6 o) (below_alloc _ o1)
      have ac_X0_6 := fun o => cell_b (c_X0_6) (below_alloc _ o)
      have bc_X0_6 := fun o o1 => cell_b (ac_X0_6 o) (below_alloc _ o1)
      have ac_X1_6 := fun o => cell_b (c_X1_6) (below_alloc _ o)
      have bc_X1_6 := fun o o1 => cell_b (ac_X1_6 o) (below_alloc _ o1)
      have ac_Y0_6 := fun o => cell_b (c_Y0_6) (below_alloc _ o)
      have bc_Y0_6 := fun o o1 => cell_b (ac_Y0_6 o) (below_alloc _ o1)
      have ac_Y1_6 := fun o => cell_b (c_Y1_6) (below_alloc _ o)
      have bc_Y1_6 := fun o o1 => cell_b (ac_Y1_6 o) (below_alloc _ o1)
      have af_C0_6 := fun o => frz_b (cell_lt (c_C0_6)) (f_C0_6) (below_alloc _ o)
      have bf_C0_6 := fun o o1 => frz_b (cell_lt (ac_C0_6 o)) (af_C0_6 o) (below_alloc _ o1)
      have af_C1_6 := fun o => frz_b (cell_lt (c_C1_6)) (f_C1_6) (below_alloc _ o)
      have bf_C1_6 := fun o o1 => frz_b (cell_lt (ac_C1_6 o)) (af_C1_6 o) (below_alloc _ o1)
      clear hb c_C0_5 c_C1_5 c_X0_5 c_X1_5 c_Y0_5 c_Y1_5 f_C0_5 f_C1_5 r_c_5 r_X0_5 r_X1_5 r_Y0_5 r_Y1_5 T_5 ac_C0_5 bc_C0_5 ac_C1_5 bc_C1_5 ac_X0_5 bc_X0_5 ac_X1_5 bc_X1_5 ac_Y0_5 bc_Y0_5 ac_Y1_5 bc_Y1_5 af_C0_5 bf_C0_5 af_C1_5 bf_C1_5
      go_wp2_with fail
      (with_reducible refine (eqB_true (drew_b (L_wkInts _ _ _ (([] : List Int)) (([] : List Int)) (rdb_rd (r_X1_6.out)) (rdb_rd (r_Y1_6.out)) (by first | omega | (simp; done) | (simp; omega)) (by first | omega | (simp; done) | (simp; omega))))).mono ?_)
      rintro e w7 ⟨rfl, hb⟩
      have c_C0_7 := cell_b (c_C0_6) hb
      have c_C1_7 := cell_b (c_C1_6) hb
      have c_X0_7 := cell_b (c_X0_6) hb
      have c_X1_7 := cell_b (c_X1_6) hb
      have c_Y0_7 := cell_b (c_Y0_6) hb
      have c_Y1_7 := cell_b (c_Y1_6) hb
      have f_C0_7 := frz_b (cell_lt (c_C0_6)) (f_C0_6) hb
      have f_C1_7 := frz_b (cell_lt (c_C1_6)) (f_C1_6) hb
      have r_c_7 := Lib.hid (rdb_b (r_c_6.out) hb)
      have r_X0_7 := Lib.hid (rdb_b (r_X0_6.out) hb)
      have r_X1_7 := Lib.hid (rdb_b (r_X1_6.out) hb)
      have r_Y0_7 := Lib.hid (rdb_b (r_Y0_6.out) hb)
      have r_Y1_7 := Lib.hid (rdb_b (r_Y1_6.out) hb)
      have T_7 := Lib.hid (below_trans (T_6.out) hb)
      have z_7 : w6.heap.size ≤ w7.heap.size := (by have := hb.size; (try simp at this); omega)
      have ac_C0_7 := fun o => cell_b (c_C0_7) (below_alloc _ o)
      have bc_C0_7 := fun o o1 => cell_b (ac_C0_7 o) (below_alloc _ o1)
      have ac_C1_7 := fun o => cell_b (c_C1_7) (below_alloc _ o)
      have bc_C1_7 := fun o o1 => cell_b (ac_C1_7 o) (below_alloc _ o1)
      have ac_X0_7 := fun o => cell_b (c_X0_7) (below_alloc _ o)
      have bc_X0_7 := fun o o1 => cell_b (ac_X0_7 o) (below_alloc _ o1)
      have ac_X1_7 := fun o => cell_b (c_X1_7) (below_alloc _ o)
      have bc_X1_7 := fun o o1 => cell_b (ac_X1_7 o) (below_alloc _ o1)
      have ac_Y0_7 := fun o => cell_b (c_Y0_7) (below_alloc _ o)
      have bc_Y0_7 := fun o o1 => cell_b (ac_Y0_7 o) (below_alloc _ o1)
      have ac_Y1_7 := fun o => cell_b (c_Y1_7) (below_alloc _ o)
      have bc_Y1_7 := fun o o1 => cell_b (ac_Y1_7 o) (below_alloc _ o1)
      have af_C0_7 := fun o => frz_b (cell_lt (c_C0_7)) (f_C0_7) (below_alloc _ o)
      have bf_C0_7 := fun o o1 => frz_b (cell_lt (ac_C0_7 o)) (af_C0_7 o) (below_alloc _ o1)
      have af_C1_7 := fun o => frz_b (cell_lt (c_C1_7)) (f_C1_7) (below_alloc _ o)
      have bf_C1_7 := fun o o1 => frz_b (cell_lt (ac_C1_7 o)) (af_C1_7 o) (below_alloc _ o1)
      clear hb c_C0_6 c_C1_6 c_X0_6 c_X1_6 c_Y0_6 c_Y1_6 f_C0_6 f_C1_6 r_c_6 r_X0_6 r_X1_6 r_Y0_6 r_Y1_6 T_6 ac_C0_6 bc_C0_6 ac_C1_6 bc_C1_6 ac_X0_6 bc_X0_6 ac_X1_6 bc_X1_6 ac_Y0_6 bc_Y0_6 ac_Y1_6 bc_Y1_6 af_C0_6 bf_C0_6 af_C1_6 bf_C1_6
      go_wp2_with fail
      go_ret
      exact ⟨rfl, (T_7.out)⟩
end Go.Proofs.Ytgdhbhgkfcgjdaa
