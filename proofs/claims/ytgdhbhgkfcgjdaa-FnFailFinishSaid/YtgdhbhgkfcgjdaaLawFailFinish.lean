/- The law FnFailFinish: the walk. -/
import Derived.Test.YtgdhbhgkfcgjdaaCodeOnce
import Derived.Test.YtgdhbhgkfcgjdaaPlainOnce
import Derived.Test.YtgdhbhgkfcgjdaaCalm
import Derived.Deep.RegionHeld3
import Derived.Deep.DrawnRows
import Derived.Deep.RegionLaw
namespace Go.Proofs.Ytgdhbhgkfcgjdaa
open Go.RowKit
attribute [local go_sem ↓] Go.wp_at_zero Go.wp_at_succ
set_option maxHeartbeats 4000000 in
set_option maxRecDepth 100000 in
theorem W_FnFailFinish (w : World) (v : Value) (n : Nat) (hv : RdY w v n) (hm : n ≤ 9223372036854775807) :
    Calls Try.prog 10 #[v] w fun e w' => e = .returned (.bool true) ∧ Below w.heap.size w w' := by
  have HV := Lib.hid hv
  obtain ⟨a, cap, rfl, hcap, hnc, hr⟩ := hv
  clear hr hnc
  by_cases hbig : 1048576 < n
  · go_enter Try.func10, Try.ntmps10
    go_wp2
    go_ret
    exact ⟨rfl, Below.refl _ _⟩
  · go_enter Try.func10, Try.ntmps10
    have T_0 : Hid (Below w.heap.size w w) := Lib.hid (Below.refl _ _)
    go_wp2_with fail
    (with_reducible refine (S_DrawFailOnce _ _ n HV.out (by omega)).mono ?_)
    rintro e w1 ⟨s, o, k, xs, t, a1, c1, rfl, hx, hd, hb⟩
    have T_1 := Lib.hid (below_trans (T_0.out) hb)
    have z_1 : w.heap.size ≤ w1.heap.size := (by have := hb.size; (try simp at this); omega)
    have r_c_1 := Lib.hid (rdb_mono hd (show w.heap.size ≤ _ by first | omega | (simp; done) | (simp; omega)))
    have lr_c := Lib.hid (rdb_lo r_c_1.out)
    have hr_c := Lib.hid (rdb_hi r_c_1.out)
    clear hb T_0 hd
    by_cases hok : runs s o k xs t = true
    · rcases xs with _ | ⟨y, ys⟩
      · have HV1 := Lib.hid hok
        clear hok
        have r_c_1 : Hid (RdB w1 w.heap.size (.slice a1 0 c1) ([] : List Int)) := Lib.hid r_c_1.out
        have HT1 : Hid (failO s o k (([] : List Int)) t = (0, 0, ([] : List Int), true)) := Lib.hid (by exact fail_nil HV1.out)
        have HQ2 : Hid ((failO s o k (([] : List Int)) t).1 = 0) := Lib.hid (by rw [HT1.out])
        have HQ3 : Hid ((failO s o k (([] : List Int)) t).2.1 = 0) := Lib.hid (by rw [HT1.out])
        have HQ4 : Hid ((failO s o k (([] : List Int)) t).2.2.1 = ([] : List Int)) := Lib.hid (by rw [HT1.out])
        have HQ5 : Hid ((failO s o k (([] : List Int)) t).2.2.2 = true) := Lib.hid (by rw [HT1.out])
        go_wp2_with fail
        (with_reducible refine (I_FailOnce_q _ (s) (o) (k) _ (([] : List Int)) (t) (0) (0) (0) (([] : List Int)) (true) (0) (rdb_rd (rdb_b (r_c_1.out) (below_alloc _ _))) (by first | omega | (simp; done) | (simp; omega)) HQ2.out HQ3.out rfl HQ4.out HQ5.out rfl).mono ?_)
        rintro e w2 ⟨aX0, cX0, rfl, hX0, hb⟩
        have c_O0_2 := cell_b (p := ⟨w1.heap.size, 0, none⟩) (v := .int .i64 s) (by first | (simp; done) | (simp [World.cell?_alloc_past, World.cell?_alloc_at]; done)) hb
        have c_O1_2 := cell_b (p := ⟨w1.heap.size, 1, none⟩) (v := .int .i64 o) (by first | (simp; done) | (simp [World.cell?_alloc_past, World.cell?_alloc_at]; done)) hb
        have c_O2_2 := cell_b (p := ⟨w1.heap.size, 2, none⟩) (v := .int .i64 k) (by first | (simp; done) | (simp [World.cell?_alloc_past, World.cell?_alloc_at]; done)) hb
        have c_O3_2 := cell_b (p := ⟨w1.heap.size, 3, none⟩) (v := .slice a1 0 c1) (by first | (simp; done) | (simp [World.cell?_alloc_past, World.cell?_alloc_at]; done)) hb
        have r_c_2 := Lib.hid (rdb_b (rdb_b (r_c_1.out) (below_alloc _ _)) hb)
        have T_2 := Lib.hid (below_trans (below_trans (T_1.out) (below_alloc _ _)) hb)
        have z_2 : w1.heap.size + 1 ≤ w2.heap.size := (by have := hb.size; (try simp at this); omega)
        have r_X0_2 := Lib.hid (rdb_mono hX0 (show w1.heap.size + 1 ≤ _ by first | omega | (simp; done) | (simp; omega)))
        have lr_X0 := Lib.hid (rdb_lo r_X0_2.out)
        have hr_X0 := Lib.hid (rdb_hi r_X0_2.out)
        have ac_O0_2 := fun o => cell_b (c_O0_2) (below_alloc _ o)
        have bc_O0_2 := fun o o1 => cell_b (ac_O0_2 o) (below_alloc _ o1)
        have dc_O0_2 := fun o o1 o2 => cell_b (bc_O0_2 o o1) (below_alloc _ o2)
        have ac_O1_2 := fun o => cell_b (c_O1_2) (below_alloc _ o)
        have bc_O1_2 := fun o o1 => cell_b (ac_O1_2 o) (below_alloc _ o1)
        have dc_O1_2 := fun o o1 o2 => cell_b (bc_O1_2 o o1) (below_alloc _ o2)
        have ac_O2_2 := fun o => cell_b (c_O2_2) (below_alloc _ o)
        have bc_O2_2 := fun o o1 => cell_b (ac_O2_2 o) (below_alloc _ o1)
        have dc_O2_2 := fun o o1 o2 => cell_b (bc_O2_2 o o1) (below_alloc _ o2)
        have ac_O3_2 := fun o => cell_b (c_O3_2) (below_alloc _ o)
        have bc_O3_2 := fun o o1 => cell_b (ac_O3_2 o) (below_alloc _ o1)
        have dc_O3_2 := fun o o1 o2 => cell_b (bc_O3_2 o o1) (below_alloc _ o2)
        clear hb r_c_1 T_1 hX0
        go_wp2_with fail
        (with_reducible refine (S_FailOnce_q _ (s) (o) (k) _ (([] : List Int)) (t) (0) (0) (0) (([] : List Int)) (true) (0) (rdb_rd (rdb_b (r_c_2.out) (below_alloc _ _))) (by first | omega | (simp; done) | (simp; omega)) HQ2.out HQ3.out rfl HQ4.out HQ5.out rfl).mono ?_)
        rintro e w3 ⟨aY0, cY0, rfl, hY0, hb⟩
        have c_O0_3 := cell_b (cell_b (c_O0_2) (below_alloc _ _)) hb
        have c_O1_3 := cell_b (cell_b (c_O1_2) (below_alloc _ _)) hb
        have c_O2_3 := cell_b (cell_b (c_O2_2) (below_alloc _ _)) hb
        have c_O3_3 := cell_b (cell_b (c_O3_2) (below_alloc _ _)) hb
        have c_X0_3 := cell_b (p := ⟨w2.heap.size, 0, none⟩) (v := .int .i64 (0)) (by first | (simp; done) | (simp [World.cell?_alloc_past, World.cell?_alloc_at]; done)) hb
        have c_X1_3 := cell_b (p := ⟨w2.heap.size, 1, none⟩) (v := .int .i64 (0)) (by first | (simp; done) | (simp [World.cell?_alloc_past, World.cell?_alloc_at]; done)) hb
        have c_X2_3 := cell_b (p := ⟨w2.heap.size, 2, none⟩) (v := .int .i64 (0)) (by first | (simp; done) | (simp [World.cell?_alloc_past, World.cell?_alloc_at]; done)) hb
        have c_X3_3 := cell_b (p := ⟨w2.heap.size, 3, none⟩) (v := .slice aX0 (0) cX0) (by first | (simp; done) | (simp [World.cell?_alloc_past, World.cell?_alloc_at]; done)) hb
        have r_c_3 := Lib.hid (rdb_b (rdb_b (r_c_2.out) (below_alloc _ _)) hb)
        have r_X0_3 := Lib.hid (rdb_b (rdb_b (r_X0_2.out) (below_alloc _ _)) hb)
        have T_3 := Lib.hid (below_trans (below_trans (T_2.out) (below_alloc _ _)) hb)
        have z_3 : w2.heap.size + 1 ≤ w3.heap.size := (by have := hb.size; (try simp at this); omega)
        have r_Y0_3 := Lib.hid (rdb_mono hY0 (show w2.heap.size + 1 ≤ _ by first | omega | (simp; done) | (simp; omega)))
        have lr_Y0 := Lib.hid (rdb_lo r_Y0_3.out)
        have hr_Y0 := Lib.hid (rdb_hi r_Y0_3.out)
        have ac_O0_3 := fun o => cell_b (c_O0_3) (below_alloc _ o)
        have bc_O0_3 := fun o o1 => cell_b (ac_O0_3 o) (below_alloc _ o1)
        have dc_O0_3 := fun o o1 o2 => cell_b (bc_O0_3 o o1) (below_alloc _ o2)
        have ac_O1_3 := fun o => cell_b (c_O1_3) (below_alloc _ o)
        have bc_O1_3 := fun o o1 => cell_b (ac_O1_3 o) (below_alloc _ o1)
        have dc_O1_3 := fun o o1 o2 => cell_b (bc_O1_3 o o1) (below_alloc _ o2)
        have ac_O2_3 := fun o => cell_b (c_O2_3) (below_alloc _ o)
        have bc_O2_3 := fun o o1 => cell_b (ac_O2_3 o) (below_alloc _ o1)
        have dc_O2_3 := fun o o1 o2 => cell_b (bc_O2_3 o o1) (below_alloc _ o2)
        have ac_O3_3 := fun o => cell_b (c_O3_3) (below_alloc _ o)
        have bc_O3_3 := fun o o1 => cell_b (ac_O3_3 o) (below_alloc _ o1)
        have dc_O3_3 := fun o o1 o2 => cell_b (bc_O3_3 o o1) (below_alloc _ o2)
        have ac_X0_3 := fun o => cell_b (c_X0_3) (below_alloc _ o)
        have bc_X0_3 := fun o o1 => cell_b (ac_X0_3 o) (below_alloc _ o1)
        have dc_X0_3 := fun o o1 o2 => cell_b (bc_X0_3 o o1) (below_alloc _ o2)
        have ac_X1_3 := fun o => cell_b (c_X1_3) (below_alloc _ o)
        have bc_X1_3 := fun o o1 => cell_b (ac_X1_3 o) (below_alloc _ o1)
        have dc_X1_3 := fun o o1 o2 => cell_b (bc_X1_3 o o1) (below_alloc _ o2)
        have ac_X2_3 := fun o => cell_b (c_X2_3) (below_alloc _ o)
        have bc_X2_3 := fun o o1 => cell_b (ac_X2_3 o) (below_alloc _ o1)
        have dc_X2_3 := fun o o1 o2 => cell_b (bc_X2_3 o o1) (below_alloc _ o2)
        have ac_X3_3 := fun o => cell_b (c_X3_3) (below_alloc _ o)
        have bc_X3_3 := fun o o1 => cell_b (ac_X3_3 o) (below_alloc _ o1)
        have dc_X3_3 := fun o o1 o2 => cell_b (bc_X3_3 o o1) (below_alloc _ o2)
        clear hb c_O0_2 c_O1_2 c_O2_2 c_O3_2 r_c_2 r_X0_2 T_2 ac_O0_2 bc_O0_2 dc_O0_2 ac_O1_2 bc_O1_2 dc_O1_2 ac_O2_2 bc_O2_2 dc_O2_2 ac_O3_2 bc_O3_2 dc_O3_2 hY0
        go_wp2_with fail
        (with_reducible refine (I_OnceSame_q _ (0) (0) (0) (0) (0) (0) _ (([] : List Int)) _ (([] : List Int)) true (rdb_rd (rdb_b (r_X0_3.out) (below_alloc _ _))) (rdb_rd (rdb_b (r_Y0_3.out) (below_alloc _ _))) (by first | omega | (simp; done) | (simp; omega)) (by first | omega | (simp; done) | (simp; omega)) (by simp [eqB_self])).mono ?_)
        rintro e w4 ⟨rfl, hb⟩
        have c_O0_4 := cell_b (cell_b (c_O0_3) (below_alloc _ _)) hb
        have c_O1_4 := cell_b (cell_b (c_O1_3) (below_alloc _ _)) hb
        have c_O2_4 := cell_b (cell_b (c_O2_3) (below_alloc _ _)) hb
        have c_O3_4 := cell_b (cell_b (c_O3_3) (below_alloc _ _)) hb
        have c_X0_4 := cell_b (cell_b (c_X0_3) (below_alloc _ _)) hb
        have c_X1_4 := cell_b (cell_b (c_X1_3) (below_alloc _ _)) hb
        have c_X2_4 := cell_b (cell_b (c_X2_3) (below_alloc _ _)) hb
        have c_X3_4 := cell_b (cell_b (c_X3_3) (below_alloc _ _)) hb
        have c_Y0_4 := cell_b (p := ⟨w3.heap.size, 0, none⟩) (v := .int .i64 (0)) (by first | (simp; done) | (simp [World.cell?_alloc_past, World.cell?_alloc_at]; done)) hb
        have c_Y1_4 := cell_b (p := ⟨w3.heap.size, 1, none⟩) (v := .int .i64 (0)) (by first | (simp; done) | (simp [World.cell?_alloc_past, World.cell?_alloc_at]; done)) hb
        have c_Y2_4 := cell_b (p := ⟨w3.heap.size, 2, none⟩) (v := .int .i64 (0)) (by first | (simp; done) | (simp [World.cell?_alloc_past, World.cell?_alloc_at]; done)) hb
        have c_Y3_4 := cell_b (p := ⟨w3.heap.size, 3, none⟩) (v := .slice aY0 (0) cY0) (by first | (simp; done) | (simp [World.cell?_alloc_past, World.cell?_alloc_at]; done)) hb
        have r_c_4 := Lib.hid (rdb_b (rdb_b (r_c_3.out) (below_alloc _ _)) hb)
        have r_X0_4 := Lib.hid (rdb_b (rdb_b (r_X0_3.out) (below_alloc _ _)) hb)
        have r_Y0_4 := Lib.hid (rdb_b (rdb_b (r_Y0_3.out) (below_alloc _ _)) hb)
        have T_4 := Lib.hid (below_trans (below_trans (T_3.out) (below_alloc _ _)) hb)
        have z_4 : w3.heap.size + 1 ≤ w4.heap.size := (by have := hb.size; (try simp at this); omega)
        have ac_O0_4 := fun o => cell_b (c_O0_4) (below_alloc _ o)
        have bc_O0_4 := fun o o1 => cell_b (ac_O0_4 o) (below_alloc _ o1)
        have dc_O0_4 := fun o o1 o2 => cell_b (bc_O0_4 o o1) (below_alloc _ o2)
        have ac_O1_4 := fun o => cell_b (c_O1_4) (below_alloc _ o)
        have bc_O1_4 := fun o o1 => cell_b (ac_O1_4 o) (below_alloc _ o1)
        have dc_O1_4 := fun o o1 o2 => cell_b (bc_O1_4 o o1) (below_alloc _ o2)
        have ac_O2_4 := fun o => cell_b (c_O2_4) (below_alloc _ o)
        have bc_O2_4 := fun o o1 => cell_b (ac_O2_4 o) (below_alloc _ o1)
        have dc_O2_4 := fun o o1 o2 => cell_b (bc_O2_4 o o1) (below_alloc _ o2)
        have ac_O3_4 := fun o => cell_b (c_O3_4) (below_alloc _ o)
        have bc_O3_4 := fun o o1 => cell_b (ac_O3_4 o) (below_alloc _ o1)
        have dc_O3_4 := fun o o1 o2 => cell_b (bc_O3_4 o o1) (below_alloc _ o2)
        have ac_X0_4 := fun o => cell_b (c_X0_4) (below_alloc _ o)
        have bc_X0_4 := fun o o1 => cell_b (ac_X0_4 o) (below_alloc _ o1)
        have dc_X0_4 := fun o o1 o2 => cell_b (bc_X0_4 o o1) (below_alloc _ o2)
        have ac_X1_4 := fun o => cell_b (c_X1_4) (below_alloc _ o)
        have bc_X1_4 := fun o o1 => cell_b (ac_X1_4 o) (below_alloc _ o1)
        have dc_X1_4 := fun o o1 o2 => cell_b (bc_X1_4 o o1) (below_alloc _ o2)
        have ac_X2_4 := fun o => cell_b (c_X2_4) (below_alloc _ o)
        have bc_X2_4 := fun o o1 => cell_b (ac_X2_4 o) (below_alloc _ o1)
        have dc_X2_4 := fun o o1 o2 => cell_b (bc_X2_4 o o1) (below_alloc _ o2)
        have ac_X3_4 := fun o => cell_b (c_X3_4) (below_alloc _ o)
        have bc_X3_4 := fun o o1 => cell_b (ac_X3_4 o) (below_alloc _ o1)
        have dc_X3_4 := fun o o1 o2 => cell_b (bc_X3_4 o o1) (below_alloc _ o2)
        have ac_Y0_4 := fun o => cell_b (c_Y0_4) (below_alloc _ o)
        have bc_Y0_4 := fun o o1 => cell_b (ac_Y0_4 o) (below_alloc _ o1)
        have dc_Y0_4 := fun o o1 o2 => cell_b (bc_Y0_4 o o1) (below_alloc _ o2)
        have ac_Y1_4 := fun o => cell_b (c_Y1_4) (below_alloc _ o)
        have bc_Y1_4 := fun o o1 => cell_b (ac_Y1_4 o) (below_alloc _ o1)
        have dc_Y1_4 := fun o o1 o2 => cell_b (bc_Y1_4 o o1) (below_alloc _ o2)
        have ac_Y2_4 := fun o => cell_b (c_Y2_4) (below_alloc _ o)
        have bc_Y2_4 := fun o o1 => cell_b (ac_Y2_4 o) (below_alloc _ o1)
        have dc_Y2_4 := fun o o1 o2 => cell_b (bc_Y2_4 o o1) (below_alloc _ o2)
        have ac_Y3_4 := fun o => cell_b (c_Y3_4) (below_alloc _ o)
        have bc_Y3_4 := fun o o1 => cell_b (ac_Y3_4 o) (below_alloc _ o1)
        have dc_Y3_4 := fun o o1 o2 => cell_b (bc_Y3_4 o o1) (below_alloc _ o2)
        clear hb c_O0_3 c_O1_3 c_O2_3 c_O3_3 c_X0_3 c_X1_3 c_X2_3 c_X3_3 r_c_3 r_X0_3 r_Y0_3 T_3 ac_O0_3 bc_O0_3 dc_O0_3 ac_O1_3 bc_O1_3 dc_O1_3 ac_O2_3 bc_O2_3 dc_O2_3 ac_O3_3 bc_O3_3 dc_O3_3 ac_X0_3 bc_X0_3 dc_X0_3 ac_X1_3 bc_X1_3 dc_X1_3 ac_X2_3 bc_X2_3 dc_X2_3 ac_X3_3 bc_X3_3 dc_X3_3
        go_wp2_with fail
        (with_reducible refine (I_OnceSame_q _ (0) (0) (0) (0) (0) (0) _ (([] : List Int)) _ (([] : List Int)) true (rdb_rd (r_X0_4.out)) (rdb_rd (r_Y0_4.out)) (by first | omega | (simp; done) | (simp; omega)) (by first | omega | (simp; done) | (simp; omega)) (by simp [eqB_self])).mono ?_)
        rintro e w5 ⟨rfl, hb⟩
        have c_O0_5 := cell_b (c_O0_4) hb
        have c_O1_5 := cell_b (c_O1_4) hb
        have c_O2_5 := cell_b (c_O2_4) hb
        have c_O3_5 := cell_b (c_O3_4) hb
        have c_X0_5 := cell_b (c_X0_4) hb
        have c_X1_5 := cell_b (c_X1_4) hb
        have c_X2_5 := cell_b (c_X2_4) hb
        have c_X3_5 := cell_b (c_X3_4) hb
        have c_Y0_5 := cell_b (c_Y0_4) hb
        have c_Y1_5 := cell_b (c_Y1_4) hb
        have c_Y2_5 := cell_b (c_Y2_4) hb
        have c_Y3_5 := cell_b (c_Y3_4) hb
        have r_c_5 := Lib.hid (rdb_b (r_c_4.out) hb)
        have r_X0_5 := Lib.hid (rdb_b (r_X0_4.out) hb)
        have r_Y0_5 := Lib.hid (rdb_b (r_Y0_4.out) hb)
        have T_5 := Lib.hid (below_trans (T_4.out) hb)
        have z_5 : w4.heap.size ≤ w5.heap.size := (by have := hb.size; (try simp at this); omega)
        have ac_O0_5 := fun o => cell_b (c_O0_5) (below_alloc _ o)
        have bc_O0_5 := fun o o1 => cell_b (ac_O0_5 o) (below_alloc _ o1)
        have dc_O0_5 := fun o o1 o2 => cell_b (bc_O0_5 o o1) (below_alloc _ o2)
        have ac_O1_5 := fun o => cell_b (c_O1_5) (below_alloc _ o)
        have bc_O1_5 := fun o o1 => cell_b (ac_O1_5 o) (below_alloc _ o1)
        have dc_O1_5 := fun o o1 o2 => cell_b (bc_O1_5 o o1) (below_alloc _ o2)
        have ac_O2_5 := fun o => cell_b (c_O2_5) (below_alloc _ o)
        have bc_O2_5 := fun o o1 => cell_b (ac_O2_5 o) (below_alloc _ o1)
        have dc_O2_5 := fun o o1 o2 => cell_b (bc_O2_5 o o1) (below_alloc _ o2)
        have ac_O3_5 := fun o => cell_b (c_O3_5) (below_alloc _ o)
        have bc_O3_5 := fun o o1 => cell_b (ac_O3_5 o) (below_alloc _ o1)
        have dc_O3_5 := fun o o1 o2 => cell_b (bc_O3_5 o o1) (below_alloc _ o2)
        have ac_X0_5 := fun o => cell_b (c_X0_5) (below_alloc _ o)
        have bc_X0_5 := fun o o1 => cell_b (ac_X0_5 o) (below_alloc _ o1)
        have dc_X0_5 := fun o o1 o2 => cell_b (bc_X0_5 o o1) (below_alloc _ o2)
        have ac_X1_5 := fun o => cell_b (c_X1_5) (below_alloc _ o)
        have bc_X1_5 := fun o o1 => cell_b (ac_X1_5 o) (below_alloc _ o1)
        have dc_X1_5 := fun o o1 o2 => cell_b (bc_X1_5 o o1) (below_alloc _ o2)
        have ac_X2_5 := fun o => cell_b (c_X2_5) (below_alloc _ o)
        have bc_X2_5 := fun o o1 => cell_b (ac_X2_5 o) (below_alloc _ o1)
        have dc_X2_5 := fun o o1 o2 => cell_b (bc_X2_5 o o1) (below_alloc _ o2)
        have ac_X3_5 := fun o => cell_b (c_X3_5) (below_alloc _ o)
        have bc_X3_5 := fun o o1 => cell_b (ac_X3_5 o) (below_alloc _ o1)
        have dc_X3_5 := fun o o1 o2 => cell_b (bc_X3_5 o o1) (below_alloc _ o2)
        have ac_Y0_5 := fun o => cell_b (c_Y0_5) (below_alloc _ o)
        have bc_Y0_5 := fun o o1 => cell_b (ac_Y0_5 o) (below_alloc _ o1)
        have dc_Y0_5 := fun o o1 o2 => cell_b (bc_Y0_5 o o1) (below_alloc _ o2)
        have ac_Y1_5 := fun o => cell_b (c_Y1_5) (below_alloc _ o)
        have bc_Y1_5 := fun o o1 => cell_b (ac_Y1_5 o) (below_alloc _ o1)
        have dc_Y1_5 := fun o o1 o2 => cell_b (bc_Y1_5 o o1) (below_alloc _ o2)
        have ac_Y2_5 := fun o => cell_b (c_Y2_5) (below_alloc _ o)
        have bc_Y2_5 := fun o o1 => cell_b (ac_Y2_5 o) (below_alloc _ o1)
        have dc_Y2_5 := fun o o1 o2 => cell_b (bc_Y2_5 o o1) (below_alloc _ o2)
        have ac_Y3_5 := fun o => cell_b (c_Y3_5) (below_alloc _ o)
        have bc_Y3_5 := fun o o1 => cell_b (ac_Y3_5 o) (below_alloc _ o1)
        have dc_Y3_5 := fun o o1 o2 => cell_b (bc_Y3_5 o o1) (below_alloc _ o2)
        clear hb c_O0_4 c_O1_4 c_O2_4 c_O3_4 c_X0_4 c_X1_4 c_X2_4 c_X3_4 c_Y0_4 c_Y1_4 c_Y2_4 c_Y3_4 r_c_4 r_X0_4 r_Y0_4 T_4 ac_O0_4 bc_O0_4 dc_O0_4 ac_O1_4 bc_O1_4 dc_O1_4 ac_O2_4 bc_O2_4 dc_O2_4 ac_O3_4 bc_O3_4 dc_O3_4 ac_X0_4 bc_X0_4 dc_X0_4 ac_X1_4 bc_X1_4 dc_X1_4 ac_X2_4 bc_X2_4 dc_X2_4 ac_X3_4 bc_X3_4 dc_X3_4 ac_Y0_4 bc_Y0_4 dc_Y0_4 ac_Y1_4 bc_Y1_4 dc_Y1_4 ac_Y2_4 bc_Y2_4 dc_Y2_4 ac_Y3_4 bc_Y3_4 dc_Y3_4
        go_wp2_with fail
        go_ret
        exact ⟨rfl, (T_5.out)⟩
      · obtain ⟨gb, off, rfl, hcap1, hce, hru⟩ := rdb_uncons r_c_1.out
        by_cases hc1 : c1 = 1
        · subst hc1
          obtain rfl : ys = [] := by exact List.eq_nil_of_length_eq_zero (by omega)
          have r_t_1 := Lib.hid (hru off (.inr rfl))
          have r_c_1 : Hid (RdB w1 w.heap.size (.slice (some ⟨gb, off, none⟩) (1) 1) ([y])) := Lib.hid r_c_1.out
          have r_t_1 : Hid (RdB w1 w.heap.size (.slice (some ⟨gb, off, none⟩) 0 0) (([] : List Int))) := Lib.hid r_t_1.out
          have lr_t := Lib.hid (rdb_lo r_t_1.out)
          have hr_t := Lib.hid (rdb_hi r_t_1.out)
          have c_E0_1 := hce
          clear hru hce
          have HV1 := Lib.hid hok
          obtain ⟨f1, f2, f3, f4, f5⟩ := fail_cons hok
          have F1 := Lib.hid f1
          have F2 := Lib.hid f2
          have F3 := Lib.hid f3
          have F4 := Lib.hid f4
          clear f1 f2 f3 f4 hok
          have HT1 : Hid (failO s o k ([y]) t = (1, y, ([] : List Int), true)) := Lib.hid (by exact F1.out)
          have HQ2 : Hid ((failO s o k ([y]) t).1 = 1) := Lib.hid (by rw [HT1.out])
          have HQ3 : Hid ((failO s o k ([y]) t).2.1 = y) := Lib.hid (by rw [HT1.out])
          have HQ4 : Hid ((failO s o k ([y]) t).2.2.1 = ([] : List Int)) := Lib.hid (by rw [HT1.out])
          have HQ5 : Hid ((failO s o k ([y]) t).2.2.2 = true) := Lib.hid (by rw [HT1.out])
          go_wp2_with fail
          (with_reducible refine (I_FailOnce_q _ (s) (o) (k) _ ([y]) (t) (1) (y) (0) (([] : List Int)) (true) (0) (rdb_rd (rdb_b (r_c_1.out) (below_alloc _ _))) (by first | omega | (simp; done) | (simp; omega)) HQ2.out HQ3.out rfl HQ4.out HQ5.out rfl).mono ?_)
          rintro e w2 ⟨aX0, cX0, rfl, hX0, hb⟩
          have c_E0_2 := cell_b (cell_b (c_E0_1) (below_alloc _ _)) hb
          have c_O0_2 := cell_b (p := ⟨w1.heap.size, 0, none⟩) (v := .int .i64 s) (by first | (simp; done) | (simp [World.cell?_alloc_past, World.cell?_alloc_at]; done)) hb
          have c_O1_2 := cell_b (p := ⟨w1.heap.size, 1, none⟩) (v := .int .i64 o) (by first | (simp; done) | (simp [World.cell?_alloc_past, World.cell?_alloc_at]; done)) hb
          have c_O2_2 := cell_b (p := ⟨w1.heap.size, 2, none⟩) (v := .int .i64 k) (by first | (simp; done) | (simp [World.cell?_alloc_past, World.cell?_alloc_at]; done)) hb
          have c_O3_2 := cell_b (p := ⟨w1.heap.size, 3, none⟩) (v := .slice (some ⟨gb, off, none⟩) (1) 1) (by first | (simp; done) | (simp [World.cell?_alloc_past, World.cell?_alloc_at]; done)) hb
          have r_c_2 := Lib.hid (rdb_b (rdb_b (r_c_1.out) (below_alloc _ _)) hb)
          have r_t_2 := Lib.hid (rdb_b (rdb_b (r_t_1.out) (below_alloc _ _)) hb)
          have T_2 := Lib.hid (below_trans (below_trans (T_1.out) (below_alloc _ _)) hb)
          have z_2 : w1.heap.size + 1 ≤ w2.heap.size := (by have := hb.size; (try simp at this); omega)
          have r_X0_2 := Lib.hid (rdb_mono hX0 (show w1.heap.size + 1 ≤ _ by first | omega | (simp; done) | (simp; omega)))
          have lr_X0 := Lib.hid (rdb_lo r_X0_2.out)
          have hr_X0 := Lib.hid (rdb_hi r_X0_2.out)
          have ac_E0_2 := fun o => cell_b (c_E0_2) (below_alloc _ o)
          have bc_E0_2 := fun o o1 => cell_b (ac_E0_2 o) (below_alloc _ o1)
          have dc_E0_2 := fun o o1 o2 => cell_b (bc_E0_2 o o1) (below_alloc _ o2)
          have ac_O0_2 := fun o => cell_b (c_O0_2) (below_alloc _ o)
          have bc_O0_2 := fun o o1 => cell_b (ac_O0_2 o) (below_alloc _ o1)
          have dc_O0_2 := fun o o1 o2 => cell_b (bc_O0_2 o o1) (below_alloc _ o2)
          have ac_O1_2 := fun o => cell_b (c_O1_2) (below_alloc _ o)
          have bc_O1_2 := fun o o1 => cell_b (ac_O1_2 o) (below_alloc _ o1)
          have dc_O1_2 := fun o o1 o2 => cell_b (bc_O1_2 o o1) (below_alloc _ o2)
          have ac_O2_2 := fun o => cell_b (c_O2_2) (below_alloc _ o)
          have bc_O2_2 := fun o o1 => cell_b (ac_O2_2 o) (below_alloc _ o1)
          have dc_O2_2 := fun o o1 o2 => cell_b (bc_O2_2 o o1) (below_alloc _ o2)
          have ac_O3_2 := fun o => cell_b (c_O3_2) (below_alloc _ o)
          have bc_O3_2 := fun o o1 => cell_b (ac_O3_2 o) (below_alloc _ o1)
          have dc_O3_2 := fun o o1 o2 => cell_b (bc_O3_2 o o1) (below_alloc _ o2)
          clear hb c_E0_1 r_c_1 r_t_1 T_1 hX0
          go_wp2_with fail
          (with_reducible refine (S_FailOnce_q _ (s) (o) (k) _ ([y]) (t) (1) (y) (0) (([] : List Int)) (true) (0) (rdb_rd (rdb_b (r_c_2.out) (below_alloc _ _))) (by first | omega | (simp; done) | (simp; omega)) HQ2.out HQ3.out rfl HQ4.out HQ5.out rfl).mono ?_)
          rintro e w3 ⟨aY0, cY0, rfl, hY0, hb⟩
          have c_E0_3 := cell_b (cell_b (c_E0_2) (below_alloc _ _)) hb
          have c_O0_3 := cell_b (cell_b (c_O0_2) (below_alloc _ _)) hb
          have c_O1_3 := cell_b (cell_b (c_O1_2) (below_alloc _ _)) hb
          have c_O2_3 := cell_b (cell_b (c_O2_2) (below_alloc _ _)) hb
          have c_O3_3 := cell_b (cell_b (c_O3_2) (below_alloc _ _)) hb
          have c_X0_3 := cell_b (p := ⟨w2.heap.size, 0, none⟩) (v := .int .i64 (1)) (by first | (simp; done) | (simp [World.cell?_alloc_past, World.cell?_alloc_at]; done)) hb
          have c_X1_3 := cell_b (p := ⟨w2.heap.size, 1, none⟩) (v := .int .i64 (y)) (by first | (simp; done) | (simp [World.cell?_alloc_past, World.cell?_alloc_at]; done)) hb
          have c_X2_3 := cell_b (p := ⟨w2.heap.size, 2, none⟩) (v := .int .i64 (0)) (by first | (simp; done) | (simp [World.cell?_alloc_past, World.cell?_alloc_at]; done)) hb
          have c_X3_3 := cell_b (p := ⟨w2.heap.size, 3, none⟩) (v := .slice aX0 (0) cX0) (by first | (simp; done) | (simp [World.cell?_alloc_past, World.cell?_alloc_at]; done)) hb
          have r_c_3 := Lib.hid (rdb_b (rdb_b (r_c_2.out) (below_alloc _ _)) hb)
          have r_t_3 := Lib.hid (rdb_b (rdb_b (r_t_2.out) (below_alloc _ _)) hb)
          have r_X0_3 := Lib.hid (rdb_b (rdb_b (r_X0_2.out) (below_alloc _ _)) hb)
          have T_3 := Lib.hid (below_trans (below_trans (T_2.out) (below_alloc _ _)) hb)
          have z_3 : w2.heap.size + 1 ≤ w3.heap.size := (by have := hb.size; (try simp at this); omega)
          have r_Y0_3 := Lib.hid (rdb_mono hY0 (show w2.heap.size + 1 ≤ _ by first | omega | (simp; done) | (simp; omega)))
          have lr_Y0 := Lib.hid (rdb_lo r_Y0_3.out)
          have hr_Y0 := Lib.hid (rdb_hi r_Y0_3.out)
          have ac_E0_3 := fun o => cell_b (c_E0_3) (below_alloc _ o)
          have bc_E0_3 := fun o o1 => cell_b (ac_E0_3 o) (below_alloc _ o1)
          have dc_E0_3 := fun o o1 o2 => cell_b (bc_E0_3 o o1) (below_alloc _ o2)
          have ac_O0_3 := fun o => cell_b (c_O0_3) (below_alloc _ o)
          have bc_O0_3 := fun o o1 => cell_b (ac_O0_3 o) (below_alloc _ o1)
          have dc_O0_3 := fun o o1 o2 => cell_b (bc_O0_3 o o1) (below_alloc _ o2)
          have ac_O1_3 := fun o => cell_b (c_O1_3) (below_alloc _ o)
          have bc_O1_3 := fun o o1 => cell_b (ac_O1_3 o) (below_alloc _ o1)
          have dc_O1_3 := fun o o1 o2 => cell_b (bc_O1_3 o o1) (below_alloc _ o2)
          have ac_O2_3 := fun o => cell_b (c_O2_3) (below_alloc _ o)
          have bc_O2_3 := fun o o1 => cell_b (ac_O2_3 o) (below_alloc _ o1)
          have dc_O2_3 := fun o o1 o2 => cell_b (bc_O2_3 o o1) (below_alloc _ o2)
          have ac_O3_3 := fun o => cell_b (c_O3_3) (below_alloc _ o)
          have bc_O3_3 := fun o o1 => cell_b (ac_O3_3 o) (below_alloc _ o1)
          have dc_O3_3 := fun o o1 o2 => cell_b (bc_O3_3 o o1) (below_alloc _ o2)
          have ac_X0_3 := fun o => cell_b (c_X0_3) (below_alloc _ o)
          have bc_X0_3 := fun o o1 => cell_b (ac_X0_3 o) (below_alloc _ o1)
          have dc_X0_3 := fun o o1 o2 => cell_b (bc_X0_3 o o1) (below_alloc _ o2)
          have ac_X1_3 := fun o => cell_b (c_X1_3) (below_alloc _ o)
          have bc_X1_3 := fun o o1 => cell_b (ac_X1_3 o) (below_alloc _ o1)
          have dc_X1_3 := fun o o1 o2 => cell_b (bc_X1_3 o o1) (below_alloc _ o2)
          have ac_X2_3 := fun o => cell_b (c_X2_3) (below_alloc _ o)
          have bc_X2_3 := fun o o1 => cell_b (ac_X2_3 o) (below_alloc _ o1)
          have dc_X2_3 := fun o o1 o2 => cell_b (bc_X2_3 o o1) (below_alloc _ o2)
          have ac_X3_3 := fun o => cell_b (c_X3_3) (below_alloc _ o)
          have bc_X3_3 := fun o o1 => cell_b (ac_X3_3 o) (below_alloc _ o1)
          have dc_X3_3 := fun o o1 o2 => cell_b (bc_X3_3 o o1) (below_alloc _ o2)
          clear hb c_E0_2 c_O0_2 c_O1_2 c_O2_2 c_O3_2 r_c_2 r_t_2 r_X0_2 T_2 ac_E0_2 bc_E0_2 dc_E0_2 ac_O0_2 bc_O0_2 dc_O0_2 ac_O1_2 bc_O1_2 dc_O1_2 ac_O2_2 bc_O2_2 dc_O2_2 ac_O3_2 bc_O3_2 dc_O3_2 hY0
          go_wp2_with fail
          (with_reducible refine (I_OnceSame_q _ (1) (y) (0) (1) (y) (0) _ (([] : List Int)) _ (([] : List Int)) true (rdb_rd (rdb_b (r_X0_3.out) (below_alloc _ _))) (rdb_rd (rdb_b (r_Y0_3.out) (below_alloc _ _))) (by first | omega | (simp; done) | (simp; omega)) (by first | omega | (simp; done) | (simp; omega)) (by simp [eqB_self])).mono ?_)
          rintro e w4 ⟨rfl, hb⟩
          have c_E0_4 := cell_b (cell_b (c_E0_3) (below_alloc _ _)) hb
          have c_O0_4 := cell_b (cell_b (c_O0_3) (below_alloc _ _)) hb
          have c_O1_4 := cell_b (cell_b (c_O1_3) (below_alloc _ _)) hb
          have c_O2_4 := cell_b (cell_b (c_O2_3) (below_alloc _ _)) hb
          have c_O3_4 := cell_b (cell_b (c_O3_3) (below_alloc _ _)) hb
          have c_X0_4 := cell_b (cell_b (c_X0_3) (below_alloc _ _)) hb
          have c_X1_4 := cell_b (cell_b (c_X1_3) (below_alloc _ _)) hb
          have c_X2_4 := cell_b (cell_b (c_X2_3) (below_alloc _ _)) hb
          have c_X3_4 := cell_b (cell_b (c_X3_3) (below_alloc _ _)) hb
          have c_Y0_4 := cell_b (p := ⟨w3.heap.size, 0, none⟩) (v := .int .i64 (1)) (by first | (simp; done) | (simp [World.cell?_alloc_past, World.cell?_alloc_at]; done)) hb
          have c_Y1_4 := cell_b (p := ⟨w3.heap.size, 1, none⟩) (v := .int .i64 (y)) (by first | (simp; done) | (simp [World.cell?_alloc_past, World.cell?_alloc_at]; done)) hb
          have c_Y2_4 := cell_b (p := ⟨w3.heap.size, 2, none⟩) (v := .int .i64 (0)) (by first | (simp; done) | (simp [World.cell?_alloc_past, World.cell?_alloc_at]; done)) hb
          have c_Y3_4 := cell_b (p := ⟨w3.heap.size, 3, none⟩) (v := .slice aY0 (0) cY0) (by first | (simp; done) | (simp [World.cell?_alloc_past, World.cell?_alloc_at]; done)) hb
          have r_c_4 := Lib.hid (rdb_b (rdb_b (r_c_3.out) (below_alloc _ _)) hb)
          have r_t_4 := Lib.hid (rdb_b (rdb_b (r_t_3.out) (below_alloc _ _)) hb)
          have r_X0_4 := Lib.hid (rdb_b (rdb_b (r_X0_3.out) (below_alloc _ _)) hb)
          have r_Y0_4 := Lib.hid (rdb_b (rdb_b (r_Y0_3.out) (below_alloc _ _)) hb)
          have T_4 := Lib.hid (below_trans (below_trans (T_3.out) (below_alloc _ _)) hb)
          have z_4 : w3.heap.size + 1 ≤ w4.heap.size := (by have := hb.size; (try simp at this); omega)
          have ac_E0_4 := fun o => cell_b (c_E0_4) (below_alloc _ o)
          have bc_E0_4 := fun o o1 => cell_b (ac_E0_4 o) (below_alloc _ o1)
          have dc_E0_4 := fun o o1 o2 => cell_b (bc_E0_4 o o1) (below_alloc _ o2)
          have ac_O0_4 := fun o => cell_b (c_O0_4) (below_alloc _ o)
          have bc_O0_4 := fun o o1 => cell_b (ac_O0_4 o) (below_alloc _ o1)
          have dc_O0_4 := fun o o1 o2 => cell_b (bc_O0_4 o o1) (below_alloc _ o2)
          have ac_O1_4 := fun o => cell_b (c_O1_4) (below_alloc _ o)
          have bc_O1_4 := fun o o1 => cell_b (ac_O1_4 o) (below_alloc _ o1)
          have dc_O1_4 := fun o o1 o2 => cell_b (bc_O1_4 o o1) (below_alloc _ o2)
          have ac_O2_4 := fun o => cell_b (c_O2_4) (below_alloc _ o)
          have bc_O2_4 := fun o o1 => cell_b (ac_O2_4 o) (below_alloc _ o1)
          have dc_O2_4 := fun o o1 o2 => cell_b (bc_O2_4 o o1) (below_alloc _ o2)
          have ac_O3_4 := fun o => cell_b (c_O3_4) (below_alloc _ o)
          have bc_O3_4 := fun o o1 => cell_b (ac_O3_4 o) (below_alloc _ o1)
          have dc_O3_4 := fun o o1 o2 => cell_b (bc_O3_4 o o1) (below_alloc _ o2)
          have ac_X0_4 := fun o => cell_b (c_X0_4) (below_alloc _ o)
          have bc_X0_4 := fun o o1 => cell_b (ac_X0_4 o) (below_alloc _ o1)
          have dc_X0_4 := fun o o1 o2 => cell_b (bc_X0_4 o o1) (below_alloc _ o2)
          have ac_X1_4 := fun o => cell_b (c_X1_4) (below_alloc _ o)
          have bc_X1_4 := fun o o1 => cell_b (ac_X1_4 o) (below_alloc _ o1)
          have dc_X1_4 := fun o o1 o2 => cell_b (bc_X1_4 o o1) (below_alloc _ o2)
          have ac_X2_4 := fun o => cell_b (c_X2_4) (below_alloc _ o)
          have bc_X2_4 := fun o o1 => cell_b (ac_X2_4 o) (below_alloc _ o1)
          have dc_X2_4 := fun o o1 o2 => cell_b (bc_X2_4 o o1) (below_alloc _ o2)
          have ac_X3_4 := fun o => cell_b (c_X3_4) (below_alloc _ o)
          have bc_X3_4 := fun o o1 => cell_b (ac_X3_4 o) (below_alloc _ o1)
          have dc_X3_4 := fun o o1 o2 => cell_b (bc_X3_4 o o1) (below_alloc _ o2)
          have ac_Y0_4 := fun o => cell_b (c_Y0_4) (below_alloc _ o)
          have bc_Y0_4 := fun o o1 => cell_b (ac_Y0_4 o) (below_alloc _ o1)
          have dc_Y0_4 := fun o o1 o2 => cell_b (bc_Y0_4 o o1) (below_alloc _ o2)
          have ac_Y1_4 := fun o => cell_b (c_Y1_4) (below_alloc _ o)
          have bc_Y1_4 := fun o o1 => cell_b (ac_Y1_4 o) (below_alloc _ o1)
          have dc_Y1_4 := fun o o1 o2 => cell_b (bc_Y1_4 o o1) (below_alloc _ o2)
          have ac_Y2_4 := fun o => cell_b (c_Y2_4) (below_alloc _ o)
          have bc_Y2_4 := fun o o1 => cell_b (ac_Y2_4 o) (below_alloc _ o1)
          have dc_Y2_4 := fun o o1 o2 => cell_b (bc_Y2_4 o o1) (below_alloc _ o2)
          have ac_Y3_4 := fun o => cell_b (c_Y3_4) (below_alloc _ o)
          have bc_Y3_4 := fun o o1 => cell_b (ac_Y3_4 o) (below_alloc _ o1)
          have dc_Y3_4 := fun o o1 o2 => cell_b (bc_Y3_4 o o1) (below_alloc _ o2)
          clear hb c_E0_3 c_O0_3 c_O1_3 c_O2_3 c_O3_3 c_X0_3 c_X1_3 c_X2_3 c_X3_3 r_c_3 r_t_3 r_X0_3 r_Y0_3 T_3 ac_E0_3 bc_E0_3 dc_E0_3 ac_O0_3 bc_O0_3 dc_O0_3 ac_O1_3 bc_O1_3 dc_O1_3 ac_O2_3 bc_O2_3 dc_O2_3 ac_O3_3 bc_O3_3 dc_O3_3 ac_X0_3 bc_X0_3 dc_X0_3 ac_X1_3 bc_X1_3 dc_X1_3 ac_X2_3 bc_X2_3 dc_X2_3 ac_X3_3 bc_X3_3 dc_X3_3
          clear c_Y0_4 ac_Y0_4 bc_Y0_4 dc_Y0_4 c_Y1_4 ac_Y1_4 bc_Y1_4 dc_Y1_4 c_Y2_4 ac_Y2_4 bc_Y2_4 dc_Y2_4 c_Y3_4 ac_Y3_4 bc_Y3_4 dc_Y3_4 r_Y0_4 lr_Y0 hr_Y0
          have HQ6 : Hid ((fin 1 y 0 (([] : List Int)) y 9).1 = 2) := Lib.hid (by rw [F3.out])
          have HQ7 : Hid ((fin 1 y 0 (([] : List Int)) y 9).2.1 = y) := Lib.hid (by rw [F3.out])
          have HQ8 : Hid ((fin 1 y 0 (([] : List Int)) y 9).2.2.1 = 9) := Lib.hid (by rw [F3.out])
          have HQ9 : Hid ((fin 1 y 0 (([] : List Int)) y 9).2.2.2.1 = ([] : List Int)) := Lib.hid (by rw [F3.out])
          have HQ10 : Hid ((fin 1 y 0 (([] : List Int)) y 9).2.2.2.2 = true) := Lib.hid (by rw [F3.out])
          go_wp2_with fail
          (with_reducible refine (I_FinishOnce_q _ (1) (y) (0) _ (([] : List Int)) (y) (9) (2) (y) (9) (([] : List Int)) (([] : List Int)) (true) (0) (0) (rdb_rd (r_X0_4.out)) (by first | omega | (simp; done) | (simp; omega)) HQ6.out HQ7.out HQ8.out rfl HQ9.out HQ10.out rfl rfl).mono ?_)
          rintro e w5 ⟨aZ0, cZ0, aZ1, cZ1, rfl, hZ0, hZ1, hb⟩
          have c_E0_5 := cell_b (c_E0_4) hb
          have c_O0_5 := cell_b (c_O0_4) hb
          have c_O1_5 := cell_b (c_O1_4) hb
          have c_O2_5 := cell_b (c_O2_4) hb
          have c_O3_5 := cell_b (c_O3_4) hb
          have c_X0_5 := cell_b (c_X0_4) hb
          have c_X1_5 := cell_b (c_X1_4) hb
          have c_X2_5 := cell_b (c_X2_4) hb
          have c_X3_5 := cell_b (c_X3_4) hb
          have r_c_5 := Lib.hid (rdb_b (r_c_4.out) hb)
          have r_t_5 := Lib.hid (rdb_b (r_t_4.out) hb)
          have r_X0_5 := Lib.hid (rdb_b (r_X0_4.out) hb)
          have T_5 := Lib.hid (below_trans (T_4.out) hb)
          have z_5 : w4.heap.size ≤ w5.heap.size := (by have := hb.size; (try simp at this); omega)
          have r_Z0_5 := Lib.hid (rdb_mono hZ0 (show w4.heap.size ≤ _ by first | omega | (simp; done) | (simp; omega)))
          have lr_Z0 := Lib.hid (rdb_lo r_Z0_5.out)
          have hr_Z0 := Lib.hid (rdb_hi r_Z0_5.out)
          have r_Z1_5 := Lib.hid (rdb_mono hZ1 (show w4.heap.size ≤ _ by first | omega | (simp; done) | (simp; omega)))
          have lr_Z1 := Lib.hid (rdb_lo r_Z1_5.out)
          have hr_Z1 := Lib.hid (rdb_hi r_Z1_5.out)
          have ac_E0_5 := fun o => cell_b (c_E0_5) (below_alloc _ o)
          have bc_E0_5 := fun o o1 => cell_b (ac_E0_5 o) (below_alloc _ o1)
          have dc_E0_5 := fun o o1 o2 => cell_b (bc_E0_5 o o1) (below_alloc _ o2)
          have ac_O0_5 := fun o => cell_b (c_O0_5) (below_alloc _ o)
          have bc_O0_5 := fun o o1 => cell_b (ac_O0_5 o) (below_alloc _ o1)
          have dc_O0_5 := fun o o1 o2 => cell_b (bc_O0_5 o o1) (below_alloc _ o2)
          have ac_O1_5 := fun o => cell_b (c_O1_5) (below_alloc _ o)
          have bc_O1_5 := fun o o1 => cell_b (ac_O1_5 o) (below_alloc _ o1)
          have dc_O1_5 := fun o o1 o2 => cell_b (bc_O1_5 o o1) (below_alloc _ o2)
          have ac_O2_5 := fun o => cell_b (c_O2_5) (below_alloc _ o)
          have bc_O2_5 := fun o o1 => cell_b (ac_O2_5 o) (below_alloc _ o1)
          have dc_O2_5 := fun o o1 o2 => cell_b (bc_O2_5 o o1) (below_alloc _ o2)
          have ac_O3_5 := fun o => cell_b (c_O3_5) (below_alloc _ o)
          have bc_O3_5 := fun o o1 => cell_b (ac_O3_5 o) (below_alloc _ o1)
          have dc_O3_5 := fun o o1 o2 => cell_b (bc_O3_5 o o1) (below_alloc _ o2)
          have ac_X0_5 := fun o => cell_b (c_X0_5) (below_alloc _ o)
          have bc_X0_5 := fun o o1 => cell_b (ac_X0_5 o) (below_alloc _ o1)
          have dc_X0_5 := fun o o1 o2 => cell_b (bc_X0_5 o o1) (below_alloc _ o2)
          have ac_X1_5 := fun o => cell_b (c_X1_5) (below_alloc _ o)
          have bc_X1_5 := fun o o1 => cell_b (ac_X1_5 o) (below_alloc _ o1)
          have dc_X1_5 := fun o o1 o2 => cell_b (bc_X1_5 o o1) (below_alloc _ o2)
          have ac_X2_5 := fun o => cell_b (c_X2_5) (below_alloc _ o)
          have bc_X2_5 := fun o o1 => cell_b (ac_X2_5 o) (below_alloc _ o1)
          have dc_X2_5 := fun o o1 o2 => cell_b (bc_X2_5 o o1) (below_alloc _ o2)
          have ac_X3_5 := fun o => cell_b (c_X3_5) (below_alloc _ o)
          have bc_X3_5 := fun o o1 => cell_b (ac_X3_5 o) (below_alloc _ o1)
          have dc_X3_5 := fun o o1 o2 => cell_b (bc_X3_5 o o1) (below_alloc _ o2)
          clear hb c_E0_4 c_O0_4 c_O1_4 c_O2_4 c_O3_4 c_X0_4 c_X1_4 c_X2_4 c_X3_4 r_c_4 r_t_4 r_X0_4 T_4 ac_E0_4 bc_E0_4 dc_E0_4 ac_O0_4 bc_O0_4 dc_O0_4 ac_O1_4 bc_O1_4 dc_O1_4 ac_O2_4 bc_O2_4 dc_O2_4 ac_O3_4 bc_O3_4 dc_O3_4 ac_X0_4 bc_X0_4 dc_X0_4 ac_X1_4 bc_X1_4 dc_X1_4 ac_X2_4 bc_X2_4 dc_X2_4 ac_X3_4 bc_X3_4 dc_X3_4 hZ0 hZ1
          have HQ11 : Hid ((fin 1 y 0 (([] : List Int)) t 9).1 = 0) := Lib.hid (by rw [F4.out])
          have HQ12 : Hid ((fin 1 y 0 (([] : List Int)) t 9).2.1 = 0) := Lib.hid (by rw [F4.out])
          have HQ13 : Hid ((fin 1 y 0 (([] : List Int)) t 9).2.2.1 = 0) := Lib.hid (by rw [F4.out])
          have HQ14 : Hid ((fin 1 y 0 (([] : List Int)) t 9).2.2.2.1 = ([] : List Int)) := Lib.hid (by rw [F4.out])
          have HQ15 : Hid ((fin 1 y 0 (([] : List Int)) t 9).2.2.2.2 = false) := Lib.hid (by rw [F4.out])
          go_wp2_with fail
          (with_reducible refine (I_FinishOnce_q _ (1) (y) (0) _ (([] : List Int)) (t) (9) (0) (0) (0) (([] : List Int)) (([] : List Int)) (false) (0) (0) (rdb_rd (rdb_b (r_X0_5.out) (below_alloc _ _))) (by first | omega | (simp; done) | (simp; omega)) HQ11.out HQ12.out HQ13.out rfl HQ14.out HQ15.out rfl rfl).mono ?_)
          rintro e w6 ⟨aU0, cU0, aU1, cU1, rfl, hU0, hU1, hb⟩
          have c_E0_6 := cell_b (cell_b (c_E0_5) (below_alloc _ _)) hb
          have c_O0_6 := cell_b (cell_b (c_O0_5) (below_alloc _ _)) hb
          have c_O1_6 := cell_b (cell_b (c_O1_5) (below_alloc _ _)) hb
          have c_O2_6 := cell_b (cell_b (c_O2_5) (below_alloc _ _)) hb
          have c_O3_6 := cell_b (cell_b (c_O3_5) (below_alloc _ _)) hb
          have c_X0_6 := cell_b (cell_b (c_X0_5) (below_alloc _ _)) hb
          have c_X1_6 := cell_b (cell_b (c_X1_5) (below_alloc _ _)) hb
          have c_X2_6 := cell_b (cell_b (c_X2_5) (below_alloc _ _)) hb
          have c_X3_6 := cell_b (cell_b (c_X3_5) (below_alloc _ _)) hb
          have c_Z0_6 := cell_b (p := ⟨w5.heap.size, 0, none⟩) (v := .int .i64 (2)) (by first | (simp; done) | (simp [World.cell?_alloc_past, World.cell?_alloc_at]; done)) hb
          have c_Z1_6 := cell_b (p := ⟨w5.heap.size, 1, none⟩) (v := .int .i64 (y)) (by first | (simp; done) | (simp [World.cell?_alloc_past, World.cell?_alloc_at]; done)) hb
          have c_Z2_6 := cell_b (p := ⟨w5.heap.size, 2, none⟩) (v := .int .i64 (9)) (by first | (simp; done) | (simp [World.cell?_alloc_past, World.cell?_alloc_at]; done)) hb
          have c_Z3_6 := cell_b (p := ⟨w5.heap.size, 3, none⟩) (v := .slice aZ0 (0) cZ0) (by first | (simp; done) | (simp [World.cell?_alloc_past, World.cell?_alloc_at]; done)) hb
          have r_c_6 := Lib.hid (rdb_b (rdb_b (r_c_5.out) (below_alloc _ _)) hb)
          have r_t_6 := Lib.hid (rdb_b (rdb_b (r_t_5.out) (below_alloc _ _)) hb)
          have r_X0_6 := Lib.hid (rdb_b (rdb_b (r_X0_5.out) (below_alloc _ _)) hb)
          have r_Z0_6 := Lib.hid (rdb_b (rdb_b (r_Z0_5.out) (below_alloc _ _)) hb)
          have r_Z1_6 := Lib.hid (rdb_b (rdb_b (r_Z1_5.out) (below_alloc _ _)) hb)
          have T_6 := Lib.hid (below_trans (below_trans (T_5.out) (below_alloc _ _)) hb)
          have z_6 : w5.heap.size + 1 ≤ w6.heap.size := (by have := hb.size; (try simp at this); omega)
          have r_U0_6 := Lib.hid (rdb_mono hU0 (show w5.heap.size + 1 ≤ _ by first | omega | (simp; done) | (simp; omega)))
          have lr_U0 := Lib.hid (rdb_lo r_U0_6.out)
          have hr_U0 := Lib.hid (rdb_hi r_U0_6.out)
          have r_U1_6 := Lib.hid (rdb_mono hU1 (show w5.heap.size + 1 ≤ _ by first | omega | (simp; done) | (simp; omega)))
          have lr_U1 := Lib.hid (rdb_lo r_U1_6.out)
          have hr_U1 := Lib.hid (rdb_hi r_U1_6.out)
          have ac_E0_6 := fun o => cell_b (c_E0_6) (below_alloc _ o)
          have bc_E0_6 := fun o o1 => cell_b (ac_E0_6 o) (below_alloc _ o1)
          have dc_E0_6 := fun o o1 o2 => cell_b (bc_E0_6 o o1) (below_alloc _ o2)
          have ac_O0_6 := fun o => cell_b (c_O0_6) (below_alloc _ o)
          have bc_O0_6 := fun o o1 => cell_b (ac_O0_6 o) (below_alloc _ o1)
          have dc_O0_6 := fun o o1 o2 => cell_b (bc_O0_6 o o1) (below_alloc _ o2)
          have ac_O1_6 := fun o => cell_b (c_O1_6) (below_alloc _ o)
          have bc_O1_6 := fun o o1 => cell_b (ac_O1_6 o) (below_alloc _ o1)
          have dc_O1_6 := fun o o1 o2 => cell_b (bc_O1_6 o o1) (below_alloc _ o2)
          have ac_O2_6 := fun o => cell_b (c_O2_6) (below_alloc _ o)
          have bc_O2_6 := fun o o1 => cell_b (ac_O2_6 o) (below_alloc _ o1)
          have dc_O2_6 := fun o o1 o2 => cell_b (bc_O2_6 o o1) (below_alloc _ o2)
          have ac_O3_6 := fun o => cell_b (c_O3_6) (below_alloc _ o)
          have bc_O3_6 := fun o o1 => cell_b (ac_O3_6 o) (below_alloc _ o1)
          have dc_O3_6 := fun o o1 o2 => cell_b (bc_O3_6 o o1) (below_alloc _ o2)
          have ac_X0_6 := fun o => cell_b (c_X0_6) (below_alloc _ o)
          have bc_X0_6 := fun o o1 => cell_b (ac_X0_6 o) (below_alloc _ o1)
          have dc_X0_6 := fun o o1 o2 => cell_b (bc_X0_6 o o1) (below_alloc _ o2)
          have ac_X1_6 := fun o => cell_b (c_X1_6) (below_alloc _ o)
          have bc_X1_6 := fun o o1 => cell_b (ac_X1_6 o) (below_alloc _ o1)
          have dc_X1_6 := fun o o1 o2 => cell_b (bc_X1_6 o o1) (below_alloc _ o2)
          have ac_X2_6 := fun o => cell_b (c_X2_6) (below_alloc _ o)
          have bc_X2_6 := fun o o1 => cell_b (ac_X2_6 o) (below_alloc _ o1)
          have dc_X2_6 := fun o o1 o2 => cell_b (bc_X2_6 o o1) (below_alloc _ o2)
          have ac_X3_6 := fun o => cell_b (c_X3_6) (below_alloc _ o)
          have bc_X3_6 := fun o o1 => cell_b (ac_X3_6 o) (below_alloc _ o1)
          have dc_X3_6 := fun o o1 o2 => cell_b (bc_X3_6 o o1) (below_alloc _ o2)
          have ac_Z0_6 := fun o => cell_b (c_Z0_6) (below_alloc _ o)
          have bc_Z0_6 := fun o o1 => cell_b (ac_Z0_6 o) (below_alloc _ o1)
          have dc_Z0_6 := fun o o1 o2 => cell_b (bc_Z0_6 o o1) (below_alloc _ o2)
          have ac_Z1_6 := fun o => cell_b (c_Z1_6) (below_alloc _ o)
          have bc_Z1_6 := fun o o1 => cell_b (ac_Z1_6 o) (below_alloc _ o1)
          have dc_Z1_6 := fun o o1 o2 => cell_b (bc_Z1_6 o o1) (below_alloc _ o2)
          have ac_Z2_6 := fun o => cell_b (c_Z2_6) (below_alloc _ o)
          have bc_Z2_6 := fun o o1 => cell_b (ac_Z2_6 o) (below_alloc _ o1)
          have dc_Z2_6 := fun o o1 o2 => cell_b (bc_Z2_6 o o1) (below_alloc _ o2)
          have ac_Z3_6 := fun o => cell_b (c_Z3_6) (below_alloc _ o)
          have bc_Z3_6 := fun o o1 => cell_b (ac_Z3_6 o) (below_alloc _ o1)
          have dc_Z3_6 := fun o o1 o2 => cell_b (bc_Z3_6 o o1) (below_alloc _ o2)
          clear hb c_E0_5 c_O0_5 c_O1_5 c_O2_5 c_O3_5 c_X0_5 c_X1_5 c_X2_5 c_X3_5 r_c_5 r_t_5 r_X0_5 r_Z0_5 r_Z1_5 T_5 ac_E0_5 bc_E0_5 dc_E0_5 ac_O0_5 bc_O0_5 dc_O0_5 ac_O1_5 bc_O1_5 dc_O1_5 ac_O2_5 bc_O2_5 dc_O2_5 ac_O3_5 bc_O3_5 dc_O3_5 ac_X0_5 bc_X0_5 dc_X0_5 ac_X1_5 bc_X1_5 dc_X1_5 ac_X2_5 bc_X2_5 dc_X2_5 ac_X3_5 bc_X3_5 dc_X3_5 hU0 hU1
          go_wp2_with fail
          go_ret
          exact ⟨rfl, (below_trans (T_6.out) (below_alloc _ _))⟩
        · have r_t_1 := Lib.hid (hru (off + 1) (.inl rfl))
          have r_c_1 : Hid (RdB w1 w.heap.size (.slice (some ⟨gb, off, none⟩) (ys.length + 1) c1) (y :: ys)) := Lib.hid r_c_1.out
          have r_t_1 : Hid (RdB w1 w.heap.size (.slice (some ⟨gb, off + 1, none⟩) ys.length (c1 - 1)) (ys)) := Lib.hid r_t_1.out
          have lr_t := Lib.hid (rdb_lo r_t_1.out)
          have hr_t := Lib.hid (rdb_hi r_t_1.out)
          have c_E0_1 := hce
          clear hru hce
          have HV1 := Lib.hid hok
          obtain ⟨f1, f2, f3, f4, f5⟩ := fail_cons hok
          have F1 := Lib.hid f1
          have F2 := Lib.hid f2
          have F3 := Lib.hid f3
          have F4 := Lib.hid f4
          clear f1 f2 f3 f4 hok
          have i1 : (0 : Int) ≤ (ys.length : Int) := by omega
          have i2 : (ys.length : Int) + 1 ≤ (c1 : Int) := by omega
          have i3 : ys.length + 1 ≤ c1 := by omega
          have i4 : (1 : Int) ≤ (ys.length : Int) + 1 := by omega
          have HT1 : Hid (failO s o k (y :: ys) t = (1, y, ys, true)) := Lib.hid (by exact F1.out)
          have HQ2 : Hid ((failO s o k (y :: ys) t).1 = 1) := Lib.hid (by rw [HT1.out])
          have HQ3 : Hid ((failO s o k (y :: ys) t).2.1 = y) := Lib.hid (by rw [HT1.out])
          have HQ4 : Hid ((failO s o k (y :: ys) t).2.2.1 = ys) := Lib.hid (by rw [HT1.out])
          have HQ5 : Hid ((failO s o k (y :: ys) t).2.2.2 = true) := Lib.hid (by rw [HT1.out])
          go_wp2_with fail
          (with_reducible refine (I_FailOnce_q _ (s) (o) (k) _ (y :: ys) (t) (1) (y) (0) (ys) (true) ((ys).length) (rdb_rd (rdb_b (r_c_1.out) (below_alloc _ _))) (by first | omega | (simp; done) | (simp; omega)) HQ2.out HQ3.out rfl HQ4.out HQ5.out rfl).mono ?_)
          rintro e w2 ⟨aX0, cX0, rfl, hX0, hb⟩
          have c_E0_2 := cell_b (cell_b (c_E0_1) (below_alloc _ _)) hb
          have c_O0_2 := cell_b (p := ⟨w1.heap.size, 0, none⟩) (v := .int .i64 s) (by first | (simp; done) | (simp [World.cell?_alloc_past, World.cell?_alloc_at]; done)) hb
          have c_O1_2 := cell_b (p := ⟨w1.heap.size, 1, none⟩) (v := .int .i64 o) (by first | (simp; done) | (simp [World.cell?_alloc_past, World.cell?_alloc_at]; done)) hb
          have c_O2_2 := cell_b (p := ⟨w1.heap.size, 2, none⟩) (v := .int .i64 k) (by first | (simp; done) | (simp [World.cell?_alloc_past, World.cell?_alloc_at]; done)) hb
          have c_O3_2 := cell_b (p := ⟨w1.heap.size, 3, none⟩) (v := .slice (some ⟨gb, off, none⟩) (ys.length + 1) c1) (by first | (simp; done) | (simp [World.cell?_alloc_past, World.cell?_alloc_at]; done)) hb
          have r_c_2 := Lib.hid (rdb_b (rdb_b (r_c_1.out) (below_alloc _ _)) hb)
          have r_t_2 := Lib.hid (rdb_b (rdb_b (r_t_1.out) (below_alloc _ _)) hb)
          have T_2 := Lib.hid (below_trans (below_trans (T_1.out) (below_alloc _ _)) hb)
          have z_2 : w1.heap.size + 1 ≤ w2.heap.size := (by have := hb.size; (try simp at this); omega)
          have r_X0_2 := Lib.hid (rdb_mono hX0 (show w1.heap.size + 1 ≤ _ by first | omega | (simp; done) | (simp; omega)))
          have lr_X0 := Lib.hid (rdb_lo r_X0_2.out)
          have hr_X0 := Lib.hid (rdb_hi r_X0_2.out)
          have ac_E0_2 := fun o => cell_b (c_E0_2) (below_alloc _ o)
          have bc_E0_2 := fun o o1 => cell_b (ac_E0_2 o) (below_alloc _ o1)
          have dc_E0_2 := fun o o1 o2 => cell_b (bc_E0_2 o o1) (below_alloc _ o2)
          have ac_O0_2 := fun o => cell_b (c_O0_2) (below_alloc _ o)
          have bc_O0_2 := fun o o1 => cell_b (ac_O0_2 o) (below_alloc _ o1)
          have dc_O0_2 := fun o o1 o2 => cell_b (bc_O0_2 o o1) (below_alloc _ o2)
          have ac_O1_2 := fun o => cell_b (c_O1_2) (below_alloc _ o)
          have bc_O1_2 := fun o o1 => cell_b (ac_O1_2 o) (below_alloc _ o1)
          have dc_O1_2 := fun o o1 o2 => cell_b (bc_O1_2 o o1) (below_alloc _ o2)
          have ac_O2_2 := fun o => cell_b (c_O2_2) (below_alloc _ o)
          have bc_O2_2 := fun o o1 => cell_b (ac_O2_2 o) (below_alloc _ o1)
          have dc_O2_2 := fun o o1 o2 => cell_b (bc_O2_2 o o1) (below_alloc _ o2)
          have ac_O3_2 := fun o => cell_b (c_O3_2) (below_alloc _ o)
          have bc_O3_2 := fun o o1 => cell_b (ac_O3_2 o) (below_alloc _ o1)
          have dc_O3_2 := fun o o1 o2 => cell_b (bc_O3_2 o o1) (below_alloc _ o2)
          clear hb c_E0_1 r_c_1 r_t_1 T_1 hX0
          go_wp2_with fail
          (with_reducible refine (S_FailOnce_q _ (s) (o) (k) _ (y :: ys) (t) (1) (y) (0) (ys) (true) ((ys).length) (rdb_rd (rdb_b (r_c_2.out) (below_alloc _ _))) (by first | omega | (simp; done) | (simp; omega)) HQ2.out HQ3.out rfl HQ4.out HQ5.out rfl).mono ?_)
          rintro e w3 ⟨aY0, cY0, rfl, hY0, hb⟩
          have c_E0_3 := cell_b (cell_b (c_E0_2) (below_alloc _ _)) hb
          have c_O0_3 := cell_b (cell_b (c_O0_2) (below_alloc _ _)) hb
          have c_O1_3 := cell_b (cell_b (c_O1_2) (below_alloc _ _)) hb
          have c_O2_3 := cell_b (cell_b (c_O2_2) (below_alloc _ _)) hb
          have c_O3_3 := cell_b (cell_b (c_O3_2) (below_alloc _ _)) hb
          have c_X0_3 := cell_b (p := ⟨w2.heap.size, 0, none⟩) (v := .int .i64 (1)) (by first | (simp; done) | (simp [World.cell?_alloc_past, World.cell?_alloc_at]; done)) hb
          have c_X1_3 := cell_b (p := ⟨w2.heap.size, 1, none⟩) (v := .int .i64 (y)) (by first | (simp; done) | (simp [World.cell?_alloc_past, World.cell?_alloc_at]; done)) hb
          have c_X2_3 := cell_b (p := ⟨w2.heap.size, 2, none⟩) (v := .int .i64 (0)) (by first | (simp; done) | (simp [World.cell?_alloc_past, World.cell?_alloc_at]; done)) hb
          have c_X3_3 := cell_b (p := ⟨w2.heap.size, 3, none⟩) (v := .slice aX0 ((ys).length) cX0) (by first | (simp; done) | (simp [World.cell?_alloc_past, World.cell?_alloc_at]; done)) hb
          have r_c_3 := Lib.hid (rdb_b (rdb_b (r_c_2.out) (below_alloc _ _)) hb)
          have r_t_3 := Lib.hid (rdb_b (rdb_b (r_t_2.out) (below_alloc _ _)) hb)
          have r_X0_3 := Lib.hid (rdb_b (rdb_b (r_X0_2.out) (below_alloc _ _)) hb)
          have T_3 := Lib.hid (below_trans (below_trans (T_2.out) (below_alloc _ _)) hb)
          have z_3 : w2.heap.size + 1 ≤ w3.heap.size := (by have := hb.size; (try simp at this); omega)
          have r_Y0_3 := Lib.hid (rdb_mono hY0 (show w2.heap.size + 1 ≤ _ by first | omega | (simp; done) | (simp; omega)))
          have lr_Y0 := Lib.hid (rdb_lo r_Y0_3.out)
          have hr_Y0 := Lib.hid (rdb_hi r_Y0_3.out)
          have ac_E0_3 := fun o => cell_b (c_E0_3) (below_alloc _ o)
          have bc_E0_3 := fun o o1 => cell_b (ac_E0_3 o) (below_alloc _ o1)
          have dc_E0_3 := fun o o1 o2 => cell_b (bc_E0_3 o o1) (below_alloc _ o2)
          have ac_O0_3 := fun o => cell_b (c_O0_3) (below_alloc _ o)
          have bc_O0_3 := fun o o1 => cell_b (ac_O0_3 o) (below_alloc _ o1)
          have dc_O0_3 := fun o o1 o2 => cell_b (bc_O0_3 o o1) (below_alloc _ o2)
          have ac_O1_3 := fun o => cell_b (c_O1_3) (below_alloc _ o)
          have bc_O1_3 := fun o o1 => cell_b (ac_O1_3 o) (below_alloc _ o1)
          have dc_O1_3 := fun o o1 o2 => cell_b (bc_O1_3 o o1) (below_alloc _ o2)
          have ac_O2_3 := fun o => cell_b (c_O2_3) (below_alloc _ o)
          have bc_O2_3 := fun o o1 => cell_b (ac_O2_3 o) (below_alloc _ o1)
          have dc_O2_3 := fun o o1 o2 => cell_b (bc_O2_3 o o1) (below_alloc _ o2)
          have ac_O3_3 := fun o => cell_b (c_O3_3) (below_alloc _ o)
          have bc_O3_3 := fun o o1 => cell_b (ac_O3_3 o) (below_alloc _ o1)
          have dc_O3_3 := fun o o1 o2 => cell_b (bc_O3_3 o o1) (below_alloc _ o2)
          have ac_X0_3 := fun o => cell_b (c_X0_3) (below_alloc _ o)
          have bc_X0_3 := fun o o1 => cell_b (ac_X0_3 o) (below_alloc _ o1)
          have dc_X0_3 := fun o o1 o2 => cell_b (bc_X0_3 o o1) (below_alloc _ o2)
          have ac_X1_3 := fun o => cell_b (c_X1_3) (below_alloc _ o)
          have bc_X1_3 := fun o o1 => cell_b (ac_X1_3 o) (below_alloc _ o1)
          have dc_X1_3 := fun o o1 o2 => cell_b (bc_X1_3 o o1) (below_alloc _ o2)
          have ac_X2_3 := fun o => cell_b (c_X2_3) (below_alloc _ o)
          have bc_X2_3 := fun o o1 => cell_b (ac_X2_3 o) (below_alloc _ o1)
          have dc_X2_3 := fun o o1 o2 => cell_b (bc_X2_3 o o1) (below_alloc _ o2)
          have ac_X3_3 := fun o => cell_b (c_X3_3) (below_alloc _ o)
          have bc_X3_3 := fun o o1 => cell_b (ac_X3_3 o) (below_alloc _ o1)
          have dc_X3_3 := fun o o1 o2 => cell_b (bc_X3_3 o o1) (below_alloc _ o2)
          clear hb c_E0_2 c_O0_2 c_O1_2 c_O2_2 c_O3_2 r_c_2 r_t_2 r_X0_2 T_2 ac_E0_2 bc_E0_2 dc_E0_2 ac_O0_2 bc_O0_2 dc_O0_2 ac_O1_2 bc_O1_2 dc_O1_2 ac_O2_2 bc_O2_2 dc_O2_2 ac_O3_2 bc_O3_2 dc_O3_2 hY0
          go_wp2_with fail
          (with_reducible refine (I_OnceSame_q _ (1) (y) (0) (1) (y) (0) _ (ys) _ (ys) true (rdb_rd (rdb_b (r_X0_3.out) (below_alloc _ _))) (rdb_rd (rdb_b (r_Y0_3.out) (below_alloc _ _))) (by first | omega | (simp; done) | (simp; omega)) (by first | omega | (simp; done) | (simp; omega)) (by simp [eqB_self])).mono ?_)
          rintro e w4 ⟨rfl, hb⟩
          have c_E0_4 := cell_b (cell_b (c_E0_3) (below_alloc _ _)) hb
          have c_O0_4 := cell_b (cell_b (c_O0_3) (below_alloc _ _)) hb
          have c_O1_4 := cell_b (cell_b (c_O1_3) (below_alloc _ _)) hb
          have c_O2_4 := cell_b (cell_b (c_O2_3) (below_alloc _ _)) hb
          have c_O3_4 := cell_b (cell_b (c_O3_3) (below_alloc _ _)) hb
          have c_X0_4 := cell_b (cell_b (c_X0_3) (below_alloc _ _)) hb
          have c_X1_4 := cell_b (cell_b (c_X1_3) (below_alloc _ _)) hb
          have c_X2_4 := cell_b (cell_b (c_X2_3) (below_alloc _ _)) hb
          have c_X3_4 := cell_b (cell_b (c_X3_3) (below_alloc _ _)) hb
          have c_Y0_4 := cell_b (p := ⟨w3.heap.size, 0, none⟩) (v := .int .i64 (1)) (by first | (simp; done) | (simp [World.cell?_alloc_past, World.cell?_alloc_at]; done)) hb
          have c_Y1_4 := cell_b (p := ⟨w3.heap.size, 1, none⟩) (v := .int .i64 (y)) (by first | (simp; done) | (simp [World.cell?_alloc_past, World.cell?_alloc_at]; done)) hb
          have c_Y2_4 := cell_b (p := ⟨w3.heap.size, 2, none⟩) (v := .int .i64 (0)) (by first | (simp; done) | (simp [World.cell?_alloc_past, World.cell?_alloc_at]; done)) hb
          have c_Y3_4 := cell_b (p := ⟨w3.heap.size, 3, none⟩) (v := .slice aY0 ((ys).length) cY0) (by first | (simp; done) | (simp [World.cell?_alloc_past, World.cell?_alloc_at]; done)) hb
          have r_c_4 := Lib.hid (rdb_b (rdb_b (r_c_3.out) (below_alloc _ _)) hb)
          have r_t_4 := Lib.hid (rdb_b (rdb_b (r_t_3.out) (below_alloc _ _)) hb)
          have r_X0_4 := Lib.hid (rdb_b (rdb_b (r_X0_3.out) (below_alloc _ _)) hb)
          have r_Y0_4 := Lib.hid (rdb_b (rdb_b (r_Y0_3.out) (below_alloc _ _)) hb)
          have T_4 := Lib.hid (below_trans (below_trans (T_3.out) (below_alloc _ _)) hb)
          have z_4 : w3.heap.size + 1 ≤ w4.heap.size := (by have := hb.size; (try simp at this); omega)
          have ac_E0_4 := fun o => cell_b (c_E0_4) (below_alloc _ o)
          have bc_E0_4 := fun o o1 => cell_b (ac_E0_4 o) (below_alloc _ o1)
          have dc_E0_4 := fun o o1 o2 => cell_b (bc_E0_4 o o1) (below_alloc _ o2)
          have ac_O0_4 := fun o => cell_b (c_O0_4) (below_alloc _ o)
          have bc_O0_4 := fun o o1 => cell_b (ac_O0_4 o) (below_alloc _ o1)
          have dc_O0_4 := fun o o1 o2 => cell_b (bc_O0_4 o o1) (below_alloc _ o2)
          have ac_O1_4 := fun o => cell_b (c_O1_4) (below_alloc _ o)
          have bc_O1_4 := fun o o1 => cell_b (ac_O1_4 o) (below_alloc _ o1)
          have dc_O1_4 := fun o o1 o2 => cell_b (bc_O1_4 o o1) (below_alloc _ o2)
          have ac_O2_4 := fun o => cell_b (c_O2_4) (below_alloc _ o)
          have bc_O2_4 := fun o o1 => cell_b (ac_O2_4 o) (below_alloc _ o1)
          have dc_O2_4 := fun o o1 o2 => cell_b (bc_O2_4 o o1) (below_alloc _ o2)
          have ac_O3_4 := fun o => cell_b (c_O3_4) (below_alloc _ o)
          have bc_O3_4 := fun o o1 => cell_b (ac_O3_4 o) (below_alloc _ o1)
          have dc_O3_4 := fun o o1 o2 => cell_b (bc_O3_4 o o1) (below_alloc _ o2)
          have ac_X0_4 := fun o => cell_b (c_X0_4) (below_alloc _ o)
          have bc_X0_4 := fun o o1 => cell_b (ac_X0_4 o) (below_alloc _ o1)
          have dc_X0_4 := fun o o1 o2 => cell_b (bc_X0_4 o o1) (below_alloc _ o2)
          have ac_X1_4 := fun o => cell_b (c_X1_4) (below_alloc _ o)
          have bc_X1_4 := fun o o1 => cell_b (ac_X1_4 o) (below_alloc _ o1)
          have dc_X1_4 := fun o o1 o2 => cell_b (bc_X1_4 o o1) (below_alloc _ o2)
          have ac_X2_4 := fun o => cell_b (c_X2_4) (below_alloc _ o)
          have bc_X2_4 := fun o o1 => cell_b (ac_X2_4 o) (below_alloc _ o1)
          have dc_X2_4 := fun o o1 o2 => cell_b (bc_X2_4 o o1) (below_alloc _ o2)
          have ac_X3_4 := fun o => cell_b (c_X3_4) (below_alloc _ o)
          have bc_X3_4 := fun o o1 => cell_b (ac_X3_4 o) (below_alloc _ o1)
          have dc_X3_4 := fun o o1 o2 => cell_b (bc_X3_4 o o1) (below_alloc _ o2)
          have ac_Y0_4 := fun o => cell_b (c_Y0_4) (below_alloc _ o)
          have bc_Y0_4 := fun o o1 => cell_b (ac_Y0_4 o) (below_alloc _ o1)
          have dc_Y0_4 := fun o o1 o2 => cell_b (bc_Y0_4 o o1) (below_alloc _ o2)
          have ac_Y1_4 := fun o => cell_b (c_Y1_4) (below_alloc _ o)
          have bc_Y1_4 := fun o o1 => cell_b (ac_Y1_4 o) (below_alloc _ o1)
          have dc_Y1_4 := fun o o1 o2 => cell_b (bc_Y1_4 o o1) (below_alloc _ o2)
          have ac_Y2_4 := fun o => cell_b (c_Y2_4) (below_alloc _ o)
          have bc_Y2_4 := fun o o1 => cell_b (ac_Y2_4 o) (below_alloc _ o1)
          have dc_Y2_4 := fun o o1 o2 => cell_b (bc_Y2_4 o o1) (below_alloc _ o2)
          have ac_Y3_4 := fun o => cell_b (c_Y3_4) (below_alloc _ o)
          have bc_Y3_4 := fun o o1 => cell_b (ac_Y3_4 o) (below_alloc _ o1)
          have dc_Y3_4 := fun o o1 o2 => cell_b (bc_Y3_4 o o1) (below_alloc _ o2)
          clear hb c_E0_3 c_O0_3 c_O1_3 c_O2_3 c_O3_3 c_X0_3 c_X1_3 c_X2_3 c_X3_3 r_c_3 r_t_3 r_X0_3 r_Y0_3 T_3 ac_E0_3 bc_E0_3 dc_E0_3 ac_O0_3 bc_O0_3 dc_O0_3 ac_O1_3 bc_O1_3 dc_O1_3 ac_O2_3 bc_O2_3 dc_O2_3 ac_O3_3 bc_O3_3 dc_O3_3 ac_X0_3 bc_X0_3 dc_X0_3 ac_X1_3 bc_X1_3 dc_X1_3 ac_X2_3 bc_X2_3 dc_X2_3 ac_X3_3 bc_X3_3 dc_X3_3
          clear c_Y0_4 ac_Y0_4 bc_Y0_4 dc_Y0_4 c_Y1_4 ac_Y1_4 bc_Y1_4 dc_Y1_4 c_Y2_4 ac_Y2_4 bc_Y2_4 dc_Y2_4 c_Y3_4 ac_Y3_4 bc_Y3_4 dc_Y3_4 r_Y0_4 lr_Y0 hr_Y0
          have HQ6 : Hid ((fin 1 y 0 (ys) y 9).1 = 2) := Lib.hid (by rw [F3.out])
          have HQ7 : Hid ((fin 1 y 0 (ys) y 9).2.1 = y) := Lib.hid (by rw [F3.out])
          have HQ8 : Hid ((fin 1 y 0 (ys) y 9).2.2.1 = 9) := Lib.hid (by rw [F3.out])
          have HQ9 : Hid ((fin 1 y 0 (ys) y 9).2.2.2.1 = ys) := Lib.hid (by rw [F3.out])
          have HQ10 : Hid ((fin 1 y 0 (ys) y 9).2.2.2.2 = true) := Lib.hid (by rw [F3.out])
          go_wp2_with fail
          (with_reducible refine (I_FinishOnce_q _ (1) (y) (0) _ (ys) (y) (9) (2) (y) (9) (([] : List Int)) (ys) (true) (0) ((ys).length) (rdb_rd (r_X0_4.out)) (by first | omega | (simp; done) | (simp; omega)) HQ6.out HQ7.out HQ8.out rfl HQ9.out HQ10.out rfl rfl).mono ?_)
          rintro e w5 ⟨aZ0, cZ0, aZ1, cZ1, rfl, hZ0, hZ1, hb⟩
          have c_E0_5 := cell_b (c_E0_4) hb
          have c_O0_5 := cell_b (c_O0_4) hb
          have c_O1_5 := cell_b (c_O1_4) hb
          have c_O2_5 := cell_b (c_O2_4) hb
          have c_O3_5 := cell_b (c_O3_4) hb
          have c_X0_5 := cell_b (c_X0_4) hb
          have c_X1_5 := cell_b (c_X1_4) hb
          have c_X2_5 := cell_b (c_X2_4) hb
          have c_X3_5 := cell_b (c_X3_4) hb
          have r_c_5 := Lib.hid (rdb_b (r_c_4.out) hb)
          have r_t_5 := Lib.hid (rdb_b (r_t_4.out) hb)
          have r_X0_5 := Lib.hid (rdb_b (r_X0_4.out) hb)
          have T_5 := Lib.hid (below_trans (T_4.out) hb)
          have z_5 : w4.heap.size ≤ w5.heap.size := (by have := hb.size; (try simp at this); omega)
          have r_Z0_5 := Lib.hid (rdb_mono hZ0 (show w4.heap.size ≤ _ by first | omega | (simp; done) | (simp; omega)))
          have lr_Z0 := Lib.hid (rdb_lo r_Z0_5.out)
          have hr_Z0 := Lib.hid (rdb_hi r_Z0_5.out)
          have r_Z1_5 := Lib.hid (rdb_mono hZ1 (show w4.heap.size ≤ _ by first | omega | (simp; done) | (simp; omega)))
          have lr_Z1 := Lib.hid (rdb_lo r_Z1_5.out)
          have hr_Z1 := Lib.hid (rdb_hi r_Z1_5.out)
          have ac_E0_5 := fun o => cell_b (c_E0_5) (below_alloc _ o)
          have bc_E0_5 := fun o o1 => cell_b (ac_E0_5 o) (below_alloc _ o1)
          have dc_E0_5 := fun o o1 o2 => cell_b (bc_E0_5 o o1) (below_alloc _ o2)
          have ac_O0_5 := fun o => cell_b (c_O0_5) (below_alloc _ o)
          have bc_O0_5 := fun o o1 => cell_b (ac_O0_5 o) (below_alloc _ o1)
          have dc_O0_5 := fun o o1 o2 => cell_b (bc_O0_5 o o1) (below_alloc _ o2)
          have ac_O1_5 := fun o => cell_b (c_O1_5) (below_alloc _ o)
          have bc_O1_5 := fun o o1 => cell_b (ac_O1_5 o) (below_alloc _ o1)
          have dc_O1_5 := fun o o1 o2 => cell_b (bc_O1_5 o o1) (below_alloc _ o2)
          have ac_O2_5 := fun o => cell_b (c_O2_5) (below_alloc _ o)
          have bc_O2_5 := fun o o1 => cell_b (ac_O2_5 o) (below_alloc _ o1)
          have dc_O2_5 := fun o o1 o2 => cell_b (bc_O2_5 o o1) (below_alloc _ o2)
          have ac_O3_5 := fun o => cell_b (c_O3_5) (below_alloc _ o)
          have bc_O3_5 := fun o o1 => cell_b (ac_O3_5 o) (below_alloc _ o1)
          have dc_O3_5 := fun o o1 o2 => cell_b (bc_O3_5 o o1) (below_alloc _ o2)
          have ac_X0_5 := fun o => cell_b (c_X0_5) (below_alloc _ o)
          have bc_X0_5 := fun o o1 => cell_b (ac_X0_5 o) (below_alloc _ o1)
          have dc_X0_5 := fun o o1 o2 => cell_b (bc_X0_5 o o1) (below_alloc _ o2)
          have ac_X1_5 := fun o => cell_b (c_X1_5) (below_alloc _ o)
          have bc_X1_5 := fun o o1 => cell_b (ac_X1_5 o) (below_alloc _ o1)
          have dc_X1_5 := fun o o1 o2 => cell_b (bc_X1_5 o o1) (below_alloc _ o2)
          have ac_X2_5 := fun o => cell_b (c_X2_5) (below_alloc _ o)
          have bc_X2_5 := fun o o1 => cell_b (ac_X2_5 o) (below_alloc _ o1)
          have dc_X2_5 := fun o o1 o2 => cell_b (bc_X2_5 o o1) (below_alloc _ o2)
          have ac_X3_5 := fun o => cell_b (c_X3_5) (below_alloc _ o)
          have bc_X3_5 := fun o o1 => cell_b (ac_X3_5 o) (below_alloc _ o1)
          have dc_X3_5 := fun o o1 o2 => cell_b (bc_X3_5 o o1) (below_alloc _ o2)
          clear hb c_E0_4 c_O0_4 c_O1_4 c_O2_4 c_O3_4 c_X0_4 c_X1_4 c_X2_4 c_X3_4 r_c_4 r_t_4 r_X0_4 T_4 ac_E0_4 bc_E0_4 dc_E0_4 ac_O0_4 bc_O0_4 dc_O0_4 ac_O1_4 bc_O1_4 dc_O1_4 ac_O2_4 bc_O2_4 dc_O2_4 ac_O3_4 bc_O3_4 dc_O3_4 ac_X0_4 bc_X0_4 dc_X0_4 ac_X1_4 bc_X1_4 dc_X1_4 ac_X2_4 bc_X2_4 dc_X2_4 ac_X3_4 bc_X3_4 dc_X3_4 hZ0 hZ1
          have HQ11 : Hid ((fin 1 y 0 (ys) t 9).1 = 0) := Lib.hid (by rw [F4.out])
          have HQ12 : Hid ((fin 1 y 0 (ys) t 9).2.1 = 0) := Lib.hid (by rw [F4.out])
          have HQ13 : Hid ((fin 1 y 0 (ys) t 9).2.2.1 = 0) := Lib.hid (by rw [F4.out])
          have HQ14 : Hid ((fin 1 y 0 (ys) t 9).2.2.2.1 = ([] : List Int)) := Lib.hid (by rw [F4.out])
          have HQ15 : Hid ((fin 1 y 0 (ys) t 9).2.2.2.2 = false) := Lib.hid (by rw [F4.out])
          go_wp2_with fail
          (with_reducible refine (I_FinishOnce_q _ (1) (y) (0) _ (ys) (t) (9) (0) (0) (0) (([] : List Int)) (([] : List Int)) (false) (0) (0) (rdb_rd (rdb_b (r_X0_5.out) (below_alloc _ _))) (by first | omega | (simp; done) | (simp; omega)) HQ11.out HQ12.out HQ13.out rfl HQ14.out HQ15.out rfl rfl).mono ?_)
          rintro e w6 ⟨aU0, cU0, aU1, cU1, rfl, hU0, hU1, hb⟩
          have c_E0_6 := cell_b (cell_b (c_E0_5) (below_alloc _ _)) hb
          have c_O0_6 := cell_b (cell_b (c_O0_5) (below_alloc _ _)) hb
          have c_O1_6 := cell_b (cell_b (c_O1_5) (below_alloc _ _)) hb
          have c_O2_6 := cell_b (cell_b (c_O2_5) (below_alloc _ _)) hb
          have c_O3_6 := cell_b (cell_b (c_O3_5) (below_alloc _ _)) hb
          have c_X0_6 := cell_b (cell_b (c_X0_5) (below_alloc _ _)) hb
          have c_X1_6 := cell_b (cell_b (c_X1_5) (below_alloc _ _)) hb
          have c_X2_6 := cell_b (cell_b (c_X2_5) (below_alloc _ _)) hb
          have c_X3_6 := cell_b (cell_b (c_X3_5) (below_alloc _ _)) hb
          have c_Z0_6 := cell_b (p := ⟨w5.heap.size, 0, none⟩) (v := .int .i64 (2)) (by first | (simp; done) | (simp [World.cell?_alloc_past, World.cell?_alloc_at]; done)) hb
          have c_Z1_6 := cell_b (p := ⟨w5.heap.size, 1, none⟩) (v := .int .i64 (y)) (by first | (simp; done) | (simp [World.cell?_alloc_past, World.cell?_alloc_at]; done)) hb
          have c_Z2_6 := cell_b (p := ⟨w5.heap.size, 2, none⟩) (v := .int .i64 (9)) (by first | (simp; done) | (simp [World.cell?_alloc_past, World.cell?_alloc_at]; done)) hb
          have c_Z3_6 := cell_b (p := ⟨w5.heap.size, 3, none⟩) (v := .slice aZ0 (0) cZ0) (by first | (simp; done) | (simp [World.cell?_alloc_past, World.cell?_alloc_at]; done)) hb
          have r_c_6 := Lib.hid (rdb_b (rdb_b (r_c_5.out) (below_alloc _ _)) hb)
          have r_t_6 := Lib.hid (rdb_b (rdb_b (r_t_5.out) (below_alloc _ _)) hb)
          have r_X0_6 := Lib.hid (rdb_b (rdb_b (r_X0_5.out) (below_alloc _ _)) hb)
          have r_Z0_6 := Lib.hid (rdb_b (rdb_b (r_Z0_5.out) (below_alloc _ _)) hb)
          have r_Z1_6 := Lib.hid (rdb_b (rdb_b (r_Z1_5.out) (below_alloc _ _)) hb)
          have T_6 := Lib.hid (below_trans (below_trans (T_5.out) (below_alloc _ _)) hb)
          have z_6 : w5.heap.size + 1 ≤ w6.heap.size := (by have := hb.size; (try simp at this); omega)
          have r_U0_6 := Lib.hid (rdb_mono hU0 (show w5.heap.size + 1 ≤ _ by first | omega | (simp; done) | (simp; omega)))
          have lr_U0 := Lib.hid (rdb_lo r_U0_6.out)
          have hr_U0 := Lib.hid (rdb_hi r_U0_6.out)
          have r_U1_6 := Lib.hid (rdb_mono hU1 (show w5.heap.size + 1 ≤ _ by first | omega | (simp; done) | (simp; omega)))
          have lr_U1 := Lib.hid (rdb_lo r_U1_6.out)
          have hr_U1 := Lib.hid (rdb_hi r_U1_6.out)
          have ac_E0_6 := fun o => cell_b (c_E0_6) (below_alloc _ o)
          have bc_E0_6 := fun o o1 => cell_b (ac_E0_6 o) (below_alloc _ o1)
          have dc_E0_6 := fun o o1 o2 => cell_b (bc_E0_6 o o1) (below_alloc _ o2)
          have ac_O0_6 := fun o => cell_b (c_O0_6) (below_alloc _ o)
          have bc_O0_6 := fun o o1 => cell_b (ac_O0_6 o) (below_alloc _ o1)
          have dc_O0_6 := fun o o1 o2 => cell_b (bc_O0_6 o o1) (below_alloc _ o2)
          have ac_O1_6 := fun o => cell_b (c_O1_6) (below_alloc _ o)
          have bc_O1_6 := fun o o1 => cell_b (ac_O1_6 o) (below_alloc _ o1)
          have dc_O1_6 := fun o o1 o2 => cell_b (bc_O1_6 o o1) (below_alloc _ o2)
          have ac_O2_6 := fun o => cell_b (c_O2_6) (below_alloc _ o)
          have bc_O2_6 := fun o o1 => cell_b (ac_O2_6 o) (below_alloc _ o1)
          have dc_O2_6 := fun o o1 o2 => cell_b (bc_O2_6 o o1) (below_alloc _ o2)
          have ac_O3_6 := fun o => cell_b (c_O3_6) (below_alloc _ o)
          have bc_O3_6 := fun o o1 => cell_b (ac_O3_6 o) (below_alloc _ o1)
          have dc_O3_6 := fun o o1 o2 => cell_b (bc_O3_6 o o1) (below_alloc _ o2)
          have ac_X0_6 := fun o => cell_b (c_X0_6) (below_alloc _ o)
          have bc_X0_6 := fun o o1 => cell_b (ac_X0_6 o) (below_alloc _ o1)
          have dc_X0_6 := fun o o1 o2 => cell_b (bc_X0_6 o o1) (below_alloc _ o2)
          have ac_X1_6 := fun o => cell_b (c_X1_6) (below_alloc _ o)
          have bc_X1_6 := fun o o1 => cell_b (ac_X1_6 o) (below_alloc _ o1)
          have dc_X1_6 := fun o o1 o2 => cell_b (bc_X1_6 o o1) (below_alloc _ o2)
          have ac_X2_6 := fun o => cell_b (c_X2_6) (below_alloc _ o)
          have bc_X2_6 := fun o o1 => cell_b (ac_X2_6 o) (below_alloc _ o1)
          have dc_X2_6 := fun o o1 o2 => cell_b (bc_X2_6 o o1) (below_alloc _ o2)
          have ac_X3_6 := fun o => cell_b (c_X3_6) (below_alloc _ o)
          have bc_X3_6 := fun o o1 => cell_b (ac_X3_6 o) (below_alloc _ o1)
          have dc_X3_6 := fun o o1 o2 => cell_b (bc_X3_6 o o1) (below_alloc _ o2)
          have ac_Z0_6 := fun o => cell_b (c_Z0_6) (below_alloc _ o)
          have bc_Z0_6 := fun o o1 => cell_b (ac_Z0_6 o) (below_alloc _ o1)
          have dc_Z0_6 := fun o o1 o2 => cell_b (bc_Z0_6 o o1) (below_alloc _ o2)
          have ac_Z1_6 := fun o => cell_b (c_Z1_6) (below_alloc _ o)
          have bc_Z1_6 := fun o o1 => cell_b (ac_Z1_6 o) (below_alloc _ o1)
          have dc_Z1_6 := fun o o1 o2 => cell_b (bc_Z1_6 o o1) (below_alloc _ o2)
          have ac_Z2_6 := fun o => cell_b (c_Z2_6) (below_alloc _ o)
          have bc_Z2_6 := fun o o1 => cell_b (ac_Z2_6 o) (below_alloc _ o1)
          have dc_Z2_6 := fun o o1 o2 => cell_b (bc_Z2_6 o o1) (below_alloc _ o2)
          have ac_Z3_6 := fun o => cell_b (c_Z3_6) (below_alloc _ o)
          have bc_Z3_6 := fun o o1 => cell_b (ac_Z3_6 o) (below_alloc _ o1)
          have dc_Z3_6 := fun o o1 o2 => cell_b (bc_Z3_6 o o1) (below_alloc _ o2)
          clear hb c_E0_5 c_O0_5 c_O1_5 c_O2_5 c_O3_5 c_X0_5 c_X1_5 c_X2_5 c_X3_5 r_c_5 r_t_5 r_X0_5 r_Z0_5 r_Z1_5 T_5 ac_E0_5 bc_E0_5 dc_E0_5 ac_O0_5 bc_O0_5 dc_O0_5 ac_O1_5 bc_O1_5 dc_O1_5 ac_O2_5 bc_O2_5 dc_O2_5 ac_O3_5 bc_O3_5 dc_O3_5 ac_X0_5 bc_X0_5 dc_X0_5 ac_X1_5 bc_X1_5 dc_X1_5 ac_X2_5 bc_X2_5 dc_X2_5 ac_X3_5 bc_X3_5 dc_X3_5 hU0 hU1
          have y1 : IntKind.i64.wrap ((ys.length : Int) + 1 - 1) = (ys.length : Int) := by rw [IntWalk.i64_in _ (by omega)]; omega
          go_wp2_with fail
          go_ret
          exact ⟨rfl, (below_trans (T_6.out) (below_alloc _ _))⟩
    · have HV1 : Hid (runs s o k xs t = false) := Lib.hid (by simpa using hok)
      clear hok
      have HT1 : Hid (failO s o k (xs) t = (0, 0, ([] : List Int), false)) := Lib.hid (by exact fail_no HV1.out)
      have HQ2 : Hid ((failO s o k (xs) t).1 = 0) := Lib.hid (by rw [HT1.out])
      have HQ3 : Hid ((failO s o k (xs) t).2.1 = 0) := Lib.hid (by rw [HT1.out])
      have HQ4 : Hid ((failO s o k (xs) t).2.2.1 = ([] : List Int)) := Lib.hid (by rw [HT1.out])
      have HQ5 : Hid ((failO s o k (xs) t).2.2.2 = false) := Lib.hid (by rw [HT1.out])
      go_wp2_with fail
      (with_reducible refine (I_FailOnce_q _ (s) (o) (k) _ (xs) (t) (0) (0) (0) (([] : List Int)) (false) (0) (rdb_rd (rdb_b (r_c_1.out) (below_alloc _ _))) (by first | omega | (simp; done) | (simp; omega)) HQ2.out HQ3.out rfl HQ4.out HQ5.out rfl).mono ?_)
      rintro e w2 ⟨aX0, cX0, rfl, hX0, hb⟩
      have c_O0_2 := cell_b (p := ⟨w1.heap.size, 0, none⟩) (v := .int .i64 s) (by first | (simp; done) | (simp [World.cell?_alloc_past, World.cell?_alloc_at]; done)) hb
      have c_O1_2 := cell_b (p := ⟨w1.heap.size, 1, none⟩) (v := .int .i64 o) (by first | (simp; done) | (simp [World.cell?_alloc_past, World.cell?_alloc_at]; done)) hb
      have c_O2_2 := cell_b (p := ⟨w1.heap.size, 2, none⟩) (v := .int .i64 k) (by first | (simp; done) | (simp [World.cell?_alloc_past, World.cell?_alloc_at]; done)) hb
      have c_O3_2 := cell_b (p := ⟨w1.heap.size, 3, none⟩) (v := .slice a1 xs.length c1) (by first | (simp; done) | (simp [World.cell?_alloc_past, World.cell?_alloc_at]; done)) hb
      have r_c_2 := Lib.hid (rdb_b (rdb_b (r_c_1.out) (below_alloc _ _)) hb)
      have T_2 := Lib.hid (below_trans (below_trans (T_1.out) (below_alloc _ _)) hb)
      have z_2 : w1.heap.size + 1 ≤ w2.heap.size := (by have := hb.size; (try simp at this); omega)
      have r_X0_2 := Lib.hid (rdb_mono hX0 (show w1.heap.size + 1 ≤ _ by first | omega | (simp; done) | (simp; omega)))
      have lr_X0 := Lib.hid (rdb_lo r_X0_2.out)
      have hr_X0 := Lib.hid (rdb_hi r_X0_2.out)
      have ac_O0_2 := fun o => cell_b (c_O0_2) (below_alloc _ o)
      have bc_O0_2 := fun o o1 => cell_b (ac_O0_2 o) (below_alloc _ o1)
      have dc_O0_2 := fun o o1 o2 => cell_b (bc_O0_2 o o1) (below_alloc _ o2)
      have ac_O1_2 := fun o => cell_b (c_O1_2) (below_alloc _ o)
      have bc_O1_2 := fun o o1 => cell_b (ac_O1_2 o) (below_alloc _ o1)
      have dc_O1_2 := fun o o1 o2 => cell_b (bc_O1_2 o o1) (below_alloc _ o2)
      have ac_O2_2 := fun o => cell_b (c_O2_2) (below_alloc _ o)
      have bc_O2_2 := fun o o1 => cell_b (ac_O2_2 o) (below_alloc _ o1)
      have dc_O2_2 := fun o o1 o2 => cell_b (bc_O2_2 o o1) (below_alloc _ o2)
      have ac_O3_2 := fun o => cell_b (c_O3_2) (below_alloc _ o)
      have bc_O3_2 := fun o o1 => cell_b (ac_O3_2 o) (below_alloc _ o1)
      have dc_O3_2 := fun o o1 o2 => cell_b (bc_O3_2 o o1) (below_alloc _ o2)
      clear hb r_c_1 T_1 hX0
      go_wp2_with fail
      (with_reducible refine (S_FailOnce_q _ (s) (o) (k) _ (xs) (t) (0) (0) (0) (([] : List Int)) (false) (0) (rdb_rd (rdb_b (r_c_2.out) (below_alloc _ _))) (by first | omega | (simp; done) | (simp; omega)) HQ2.out HQ3.out rfl HQ4.out HQ5.out rfl).mono ?_)
      rintro e w3 ⟨aY0, cY0, rfl, hY0, hb⟩
      have c_O0_3 := cell_b (cell_b (c_O0_2) (below_alloc _ _)) hb
      have c_O1_3 := cell_b (cell_b (c_O1_2) (below_alloc _ _)) hb
      have c_O2_3 := cell_b (cell_b (c_O2_2) (below_alloc _ _)) hb
      have c_O3_3 := cell_b (cell_b (c_O3_2) (below_alloc _ _)) hb
      have c_X0_3 := cell_b (p := ⟨w2.heap.size, 0, none⟩) (v := .int .i64 (0)) (by first | (simp; done) | (simp [World.cell?_alloc_past, World.cell?_alloc_at]; done)) hb
      have c_X1_3 := cell_b (p := ⟨w2.heap.size, 1, none⟩) (v := .int .i64 (0)) (by first | (simp; done) | (simp [World.cell?_alloc_past, World.cell?_alloc_at]; done)) hb
      have c_X2_3 := cell_b (p := ⟨w2.heap.size, 2, none⟩) (v := .int .i64 (0)) (by first | (simp; done) | (simp [World.cell?_alloc_past, World.cell?_alloc_at]; done)) hb
      have c_X3_3 := cell_b (p := ⟨w2.heap.size, 3, none⟩) (v := .slice aX0 (0) cX0) (by first | (simp; done) | (simp [World.cell?_alloc_past, World.cell?_alloc_at]; done)) hb
      have r_c_3 := Lib.hid (rdb_b (rdb_b (r_c_2.out) (below_alloc _ _)) hb)
      have r_X0_3 := Lib.hid (rdb_b (rdb_b (r_X0_2.out) (below_alloc _ _)) hb)
      have T_3 := Lib.hid (below_trans (below_trans (T_2.out) (below_alloc _ _)) hb)
      have z_3 : w2.heap.size + 1 ≤ w3.heap.size := (by have := hb.size; (try simp at this); omega)
      have r_Y0_3 := Lib.hid (rdb_mono hY0 (show w2.heap.size + 1 ≤ _ by first | omega | (simp; done) | (simp; omega)))
      have lr_Y0 := Lib.hid (rdb_lo r_Y0_3.out)
      have hr_Y0 := Lib.hid (rdb_hi r_Y0_3.out)
      have ac_O0_3 := fun o => cell_b (c_O0_3) (below_alloc _ o)
      have bc_O0_3 := fun o o1 => cell_b (ac_O0_3 o) (below_alloc _ o1)
      have dc_O0_3 := fun o o1 o2 => cell_b (bc_O0_3 o o1) (below_alloc _ o2)
      have ac_O1_3 := fun o => cell_b (c_O1_3) (below_alloc _ o)
      have bc_O1_3 := fun o o1 => cell_b (ac_O1_3 o) (below_alloc _ o1)
      have dc_O1_3 := fun o o1 o2 => cell_b (bc_O1_3 o o1) (below_alloc _ o2)
      have ac_O2_3 := fun o => cell_b (c_O2_3) (below_alloc _ o)
      have bc_O2_3 := fun o o1 => cell_b (ac_O2_3 o) (below_alloc _ o1)
      have dc_O2_3 := fun o o1 o2 => cell_b (bc_O2_3 o o1) (below_alloc _ o2)
      have ac_O3_3 := fun o => cell_b (c_O3_3) (below_alloc _ o)
      have bc_O3_3 := fun o o1 => cell_b (ac_O3_3 o) (below_alloc _ o1)
      have dc_O3_3 := fun o o1 o2 => cell_b (bc_O3_3 o o1) (below_alloc _ o2)
      have ac_X0_3 := fun o => cell_b (c_X0_3) (below_alloc _ o)
      have bc_X0_3 := fun o o1 => cell_b (ac_X0_3 o) (below_alloc _ o1)
      have dc_X0_3 := fun o o1 o2 => cell_b (bc_X0_3 o o1) (below_alloc _ o2)
      have ac_X1_3 := fun o => cell_b (c_X1_3) (below_alloc _ o)
      have bc_X1_3 := fun o o1 => cell_b (ac_X1_3 o) (below_alloc _ o1)
      have dc_X1_3 := fun o o1 o2 => cell_b (bc_X1_3 o o1) (below_alloc _ o2)
      have ac_X2_3 := fun o => cell_b (c_X2_3) (below_alloc _ o)
      have bc_X2_3 := fun o o1 => cell_b (ac_X2_3 o) (below_alloc _ o1)
      have dc_X2_3 := fun o o1 o2 => cell_b (bc_X2_3 o o1) (below_alloc _ o2)
      have ac_X3_3 := fun o => cell_b (c_X3_3) (below_alloc _ o)
      have bc_X3_3 := fun o o1 => cell_b (ac_X3_3 o) (below_alloc _ o1)
      have dc_X3_3 := fun o o1 o2 => cell_b (bc_X3_3 o o1) (below_alloc _ o2)
      clear hb c_O0_2 c_O1_2 c_O2_2 c_O3_2 r_c_2 r_X0_2 T_2 ac_O0_2 bc_O0_2 dc_O0_2 ac_O1_2 bc_O1_2 dc_O1_2 ac_O2_2 bc_O2_2 dc_O2_2 ac_O3_2 bc_O3_2 dc_O3_2 hY0
      go_wp2_with fail
      (with_reducible refine (I_OnceSame_q _ (0) (0) (0) (0) (0) (0) _ (([] : List Int)) _ (([] : List Int)) true (rdb_rd (rdb_b (r_X0_3.out) (below_alloc _ _))) (rdb_rd (rdb_b (r_Y0_3.out) (below_alloc _ _))) (by first | omega | (simp; done) | (simp; omega)) (by first | omega | (simp; done) | (simp; omega)) (by simp [eqB_self])).mono ?_)
      rintro e w4 ⟨rfl, hb⟩
      have c_O0_4 := cell_b (cell_b (c_O0_3) (below_alloc _ _)) hb
      have c_O1_4 := cell_b (cell_b (c_O1_3) (below_alloc _ _)) hb
      have c_O2_4 := cell_b (cell_b (c_O2_3) (below_alloc _ _)) hb
      have c_O3_4 := cell_b (cell_b (c_O3_3) (below_alloc _ _)) hb
      have c_X0_4 := cell_b (cell_b (c_X0_3) (below_alloc _ _)) hb
      have c_X1_4 := cell_b (cell_b (c_X1_3) (below_alloc _ _)) hb
      have c_X2_4 := cell_b (cell_b (c_X2_3) (below_alloc _ _)) hb
      have c_X3_4 := cell_b (cell_b (c_X3_3) (below_alloc _ _)) hb
      have c_Y0_4 := cell_b (p := ⟨w3.heap.size, 0, none⟩) (v := .int .i64 (0)) (by first | (simp; done) | (simp [World.cell?_alloc_past, World.cell?_alloc_at]; done)) hb
      have c_Y1_4 := cell_b (p := ⟨w3.heap.size, 1, none⟩) (v := .int .i64 (0)) (by first | (simp; done) | (simp [World.cell?_alloc_past, World.cell?_alloc_at]; done)) hb
      have c_Y2_4 := cell_b (p := ⟨w3.heap.size, 2, none⟩) (v := .int .i64 (0)) (by first | (simp; done) | (simp [World.cell?_alloc_past, World.cell?_alloc_at]; done)) hb
      have c_Y3_4 := cell_b (p := ⟨w3.heap.size, 3, none⟩) (v := .slice aY0 (0) cY0) (by first | (simp; done) | (simp [World.cell?_alloc_past, World.cell?_alloc_at]; done)) hb
      have r_c_4 := Lib.hid (rdb_b (rdb_b (r_c_3.out) (below_alloc _ _)) hb)
      have r_X0_4 := Lib.hid (rdb_b (rdb_b (r_X0_3.out) (below_alloc _ _)) hb)
      have r_Y0_4 := Lib.hid (rdb_b (rdb_b (r_Y0_3.out) (below_alloc _ _)) hb)
      have T_4 := Lib.hid (below_trans (below_trans (T_3.out) (below_alloc _ _)) hb)
      have z_4 : w3.heap.size + 1 ≤ w4.heap.size := (by have := hb.size; (try simp at this); omega)
      have ac_O0_4 := fun o => cell_b (c_O0_4) (below_alloc _ o)
      have bc_O0_4 := fun o o1 => cell_b (ac_O0_4 o) (below_alloc _ o1)
      have dc_O0_4 := fun o o1 o2 => cell_b (bc_O0_4 o o1) (below_alloc _ o2)
      have ac_O1_4 := fun o => cell_b (c_O1_4) (below_alloc _ o)
      have bc_O1_4 := fun o o1 => cell_b (ac_O1_4 o) (below_alloc _ o1)
      have dc_O1_4 := fun o o1 o2 => cell_b (bc_O1_4 o o1) (below_alloc _ o2)
      have ac_O2_4 := fun o => cell_b (c_O2_4) (below_alloc _ o)
      have bc_O2_4 := fun o o1 => cell_b (ac_O2_4 o) (below_alloc _ o1)
      have dc_O2_4 := fun o o1 o2 => cell_b (bc_O2_4 o o1) (below_alloc _ o2)
      have ac_O3_4 := fun o => cell_b (c_O3_4) (below_alloc _ o)
      have bc_O3_4 := fun o o1 => cell_b (ac_O3_4 o) (below_alloc _ o1)
      have dc_O3_4 := fun o o1 o2 => cell_b (bc_O3_4 o o1) (below_alloc _ o2)
      have ac_X0_4 := fun o => cell_b (c_X0_4) (below_alloc _ o)
      have bc_X0_4 := fun o o1 => cell_b (ac_X0_4 o) (below_alloc _ o1)
      have dc_X0_4 := fun o o1 o2 => cell_b (bc_X0_4 o o1) (below_alloc _ o2)
      have ac_X1_4 := fun o => cell_b (c_X1_4) (below_alloc _ o)
      have bc_X1_4 := fun o o1 => cell_b (ac_X1_4 o) (below_alloc _ o1)
      have dc_X1_4 := fun o o1 o2 => cell_b (bc_X1_4 o o1) (below_alloc _ o2)
      have ac_X2_4 := fun o => cell_b (c_X2_4) (below_alloc _ o)
      have bc_X2_4 := fun o o1 => cell_b (ac_X2_4 o) (below_alloc _ o1)
      have dc_X2_4 := fun o o1 o2 => cell_b (bc_X2_4 o o1) (below_alloc _ o2)
      have ac_X3_4 := fun o => cell_b (c_X3_4) (below_alloc _ o)
      have bc_X3_4 := fun o o1 => cell_b (ac_X3_4 o) (below_alloc _ o1)
      have dc_X3_4 := fun o o1 o2 => cell_b (bc_X3_4 o o1) (below_alloc _ o2)
      have ac_Y0_4 := fun o => cell_b (c_Y0_4) (below_alloc _ o)
      have bc_Y0_4 := fun o o1 => cell_b (ac_Y0_4 o) (below_alloc _ o1)
      have dc_Y0_4 := fun o o1 o2 => cell_b (bc_Y0_4 o o1) (below_alloc _ o2)
      have ac_Y1_4 := fun o => cell_b (c_Y1_4) (below_alloc _ o)
      have bc_Y1_4 := fun o o1 => cell_b (ac_Y1_4 o) (below_alloc _ o1)
      have dc_Y1_4 := fun o o1 o2 => cell_b (bc_Y1_4 o o1) (below_alloc _ o2)
      have ac_Y2_4 := fun o => cell_b (c_Y2_4) (below_alloc _ o)
      have bc_Y2_4 := fun o o1 => cell_b (ac_Y2_4 o) (below_alloc _ o1)
      have dc_Y2_4 := fun o o1 o2 => cell_b (bc_Y2_4 o o1) (below_alloc _ o2)
      have ac_Y3_4 := fun o => cell_b (c_Y3_4) (below_alloc _ o)
      have bc_Y3_4 := fun o o1 => cell_b (ac_Y3_4 o) (below_alloc _ o1)
      have dc_Y3_4 := fun o o1 o2 => cell_b (bc_Y3_4 o o1) (below_alloc _ o2)
      clear hb c_O0_3 c_O1_3 c_O2_3 c_O3_3 c_X0_3 c_X1_3 c_X2_3 c_X3_3 r_c_3 r_X0_3 r_Y0_3 T_3 ac_O0_3 bc_O0_3 dc_O0_3 ac_O1_3 bc_O1_3 dc_O1_3 ac_O2_3 bc_O2_3 dc_O2_3 ac_O3_3 bc_O3_3 dc_O3_3 ac_X0_3 bc_X0_3 dc_X0_3 ac_X1_3 bc_X1_3 dc_X1_3 ac_X2_3 bc_X2_3 dc_X2_3 ac_X3_3 bc_X3_3 dc_X3_3
      go_wp2_with fail
      (with_reducible refine (I_OnceSame_q _ (0) (0) (0) (0) (0) (0) _ (([] : List Int)) _ (([] : List Int)) true (rdb_rd (r_X0_4.out)) (rdb_rd (r_Y0_4.out)) (by first | omega | (simp; done) | (simp; omega)) (by first | omega | (simp; done) | (simp; omega)) (by simp [eqB_self])).mono ?_)
      rintro e w5 ⟨rfl, hb⟩
      have c_O0_5 := cell_b (c_O0_4) hb
      have c_O1_5 := cell_b (c_O1_4) hb
      have c_O2_5 := cell_b (c_O2_4) hb
      have c_O3_5 := cell_b (c_O3_4) hb
      have c_X0_5 := cell_b (c_X0_4) hb
      have c_X1_5 := cell_b (c_X1_4) hb
      have c_X2_5 := cell_b (c_X2_4) hb
      have c_X3_5 := cell_b (c_X3_4) hb
      have c_Y0_5 := cell_b (c_Y0_4) hb
      have c_Y1_5 := cell_b (c_Y1_4) hb
      have c_Y2_5 := cell_b (c_Y2_4) hb
      have c_Y3_5 := cell_b (c_Y3_4) hb
      have r_c_5 := Lib.hid (rdb_b (r_c_4.out) hb)
      have r_X0_5 := Lib.hid (rdb_b (r_X0_4.out) hb)
      have r_Y0_5 := Lib.hid (rdb_b (r_Y0_4.out) hb)
      have T_5 := Lib.hid (below_trans (T_4.out) hb)
      have z_5 : w4.heap.size ≤ w5.heap.size := (by have := hb.size; (try simp at this); omega)
      have ac_O0_5 := fun o => cell_b (c_O0_5) (below_alloc _ o)
      have bc_O0_5 := fun o o1 => cell_b (ac_O0_5 o) (below_alloc _ o1)
      have dc_O0_5 := fun o o1 o2 => cell_b (bc_O0_5 o o1) (below_alloc _ o2)
      have ac_O1_5 := fun o => cell_b (c_O1_5) (below_alloc _ o)
      have bc_O1_5 := fun o o1 => cell_b (ac_O1_5 o) (below_alloc _ o1)
      have dc_O1_5 := fun o o1 o2 => cell_b (bc_O1_5 o o1) (below_alloc _ o2)
      have ac_O2_5 := fun o => cell_b (c_O2_5) (below_alloc _ o)
      have bc_O2_5 := fun o o1 => cell_b (ac_O2_5 o) (below_alloc _ o1)
      have dc_O2_5 := fun o o1 o2 => cell_b (bc_O2_5 o o1) (below_alloc _ o2)
      have ac_O3_5 := fun o => cell_b (c_O3_5) (below_alloc _ o)
      have bc_O3_5 := fun o o1 => cell_b (ac_O3_5 o) (below_alloc _ o1)
      have dc_O3_5 := fun o o1 o2 => cell_b (bc_O3_5 o o1) (below_alloc _ o2)
      have ac_X0_5 := fun o => cell_b (c_X0_5) (below_alloc _ o)
      have bc_X0_5 := fun o o1 => cell_b (ac_X0_5 o) (below_alloc _ o1)
      have dc_X0_5 := fun o o1 o2 => cell_b (bc_X0_5 o o1) (below_alloc _ o2)
      have ac_X1_5 := fun o => cell_b (c_X1_5) (below_alloc _ o)
      have bc_X1_5 := fun o o1 => cell_b (ac_X1_5 o) (below_alloc _ o1)
      have dc_X1_5 := fun o o1 o2 => cell_b (bc_X1_5 o o1) (below_alloc _ o2)
      have ac_X2_5 := fun o => cell_b (c_X2_5) (below_alloc _ o)
      have bc_X2_5 := fun o o1 => cell_b (ac_X2_5 o) (below_alloc _ o1)
      have dc_X2_5 := fun o o1 o2 => cell_b (bc_X2_5 o o1) (below_alloc _ o2)
      have ac_X3_5 := fun o => cell_b (c_X3_5) (below_alloc _ o)
      have bc_X3_5 := fun o o1 => cell_b (ac_X3_5 o) (below_alloc _ o1)
      have dc_X3_5 := fun o o1 o2 => cell_b (bc_X3_5 o o1) (below_alloc _ o2)
      have ac_Y0_5 := fun o => cell_b (c_Y0_5) (below_alloc _ o)
      have bc_Y0_5 := fun o o1 => cell_b (ac_Y0_5 o) (below_alloc _ o1)
      have dc_Y0_5 := fun o o1 o2 => cell_b (bc_Y0_5 o o1) (below_alloc _ o2)
      have ac_Y1_5 := fun o => cell_b (c_Y1_5) (below_alloc _ o)
      have bc_Y1_5 := fun o o1 => cell_b (ac_Y1_5 o) (below_alloc _ o1)
      have dc_Y1_5 := fun o o1 o2 => cell_b (bc_Y1_5 o o1) (below_alloc _ o2)
      have ac_Y2_5 := fun o => cell_b (c_Y2_5) (below_alloc _ o)
      have bc_Y2_5 := fun o o1 => cell_b (ac_Y2_5 o) (below_alloc _ o1)
      have dc_Y2_5 := fun o o1 o2 => cell_b (bc_Y2_5 o o1) (below_alloc _ o2)
      have ac_Y3_5 := fun o => cell_b (c_Y3_5) (below_alloc _ o)
      have bc_Y3_5 := fun o o1 => cell_b (ac_Y3_5 o) (below_alloc _ o1)
      have dc_Y3_5 := fun o o1 o2 => cell_b (bc_Y3_5 o o1) (below_alloc _ o2)
      clear hb c_O0_4 c_O1_4 c_O2_4 c_O3_4 c_X0_4 c_X1_4 c_X2_4 c_X3_4 c_Y0_4 c_Y1_4 c_Y2_4 c_Y3_4 r_c_4 r_X0_4 r_Y0_4 T_4 ac_O0_4 bc_O0_4 dc_O0_4 ac_O1_4 bc_O1_4 dc_O1_4 ac_O2_4 bc_O2_4 dc_O2_4 ac_O3_4 bc_O3_4 dc_O3_4 ac_X0_4 bc_X0_4 dc_X0_4 ac_X1_4 bc_X1_4 dc_X1_4 ac_X2_4 bc_X2_4 dc_X2_4 ac_X3_4 bc_X3_4 dc_X3_4 ac_Y0_4 bc_Y0_4 dc_Y0_4 ac_Y1_4 bc_Y1_4 dc_Y1_4 ac_Y2_4 bc_Y2_4 dc_Y2_4 ac_Y3_4 bc_Y3_4 dc_Y3_4
      go_wp2_with fail
      go_ret
      exact ⟨rfl, (T_5.out)⟩
end Go.Proofs.Ytgdhbhgkfcgjdaa
