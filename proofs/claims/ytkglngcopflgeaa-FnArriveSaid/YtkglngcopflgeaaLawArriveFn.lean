/- The law FnArrive: the walk. -/
import Derived.Test.YtkglngcopflgeaaCodeBar
import Derived.Test.YtkglngcopflgeaaQuickBarrier
import Derived.Test.YtkglngcopflgeaaPlainBarrier
import Derived.Test.YtkglngcopflgeaaWkBarrier
import Derived.Test.YtkglngcopflgeaaGuard
import Derived.Deep.RegionHeld3
import Derived.Deep.DrawnRows
import Derived.Deep.RegionLaw
namespace Go.Proofs.Ytkglngcopflgeaa
open Go.RowKit
attribute [local go_sem ↓] Go.wp_at_zero Go.wp_at_succ
set_option maxHeartbeats 4000000 in
set_option maxRecDepth 100000 in
theorem W_FnArrive (w : World) (v : Value) (n : Nat) (hv : RdY w v n) (hm : n ≤ 9223372036854775807) :
    Calls Try.prog 10 #[v] w fun e w' => e = .returned (.bool true) ∧ Below w.heap.size w w' := by
  have HV := Lib.hid hv
  obtain ⟨a, cap, rfl, hcap, hnc, hr⟩ := hv
  clear hr hnc
  by_cases hbig : 1048576 < n
  · go_enter Try.func10, Try.ntmps10
    go_wp2
    go_ret
    exact ⟨rfl, Below.refl _ _⟩
  · go_enter Try.func10, Try.ntmps10
    have T_0 : Hid (Below w.heap.size w w) := Lib.hid (Below.refl _ _)
    go_wp2_with fail
    (with_reducible refine (S_DrawArrive _ _ n HV.out (by omega)).mono ?_)
    rintro e w1 ⟨p, m, xs, t, a1, c1, rfl, hx, hd, hb⟩
    have T_1 := Lib.hid (below_trans (T_0.out) hb)
    have z_1 : w.heap.size ≤ w1.heap.size := (by have := hb.size; (try simp at this); omega)
    have r_c_1 := Lib.hid (rdb_mono hd (show w.heap.size ≤ _ by first | omega | (simp; done) | (simp; omega)))
    have lr_c := Lib.hid (rdb_lo r_c_1.out)
    have hr_c := Lib.hid (rdb_hi r_c_1.out)
    clear hb T_0 hd
    rcases arr_three p m xs t with ⟨hA, hB, hl4⟩ | ⟨hA, hB, hpl, hl4, hm0, hm1, htt⟩ | hA
    · have EN : Hid ((xs ++ [t]).length = xs.length + 1) := Lib.hid (by simp)
      have EB := Lib.hid hB
      clear hB
      have HA := Lib.hid hA
      clear hA
      have HQ1 : Hid ((arr p m xs t).1 = p) := Lib.hid (by rw [HA.out])
      have HQ2 : Hid ((arr p m xs t).2.1 = m) := Lib.hid (by rw [HA.out])
      have HQ3 : Hid ((arr p m xs t).2.2.1 = xs ++ [t]) := Lib.hid (by rw [HA.out])
      have HQ4 : Hid ((arr p m xs t).2.2.2.1 = ([] : List Int)) := Lib.hid (by rw [HA.out])
      have HQ5 : Hid ((arr p m xs t).2.2.2.2 = true) := Lib.hid (by rw [HA.out])
      go_wp2_with fail
      (with_reducible refine (I_Arrive_q _ (p) (m) _ (xs) (t) (p) (m) (xs ++ [t]) (([] : List Int)) (true) (xs.length + 1) (0) (rdb_rd (rdb_b (r_c_1.out) (below_alloc _ _))) (by first | omega | (simp; done) | (simp; omega)) HQ1.out HQ2.out HQ3.out HQ4.out HQ5.out EN.out rfl).mono ?_)
      rintro e w2 ⟨aX0, cX0, aX1, cX1, rfl, hX0, hX1, hb⟩
      have c_C0_2 := cell_b (p := ⟨w1.heap.size, 0, none⟩) (v := .int .i64 p) (by simp) hb
      have c_C1_2 := cell_b (p := ⟨w1.heap.size, 1, none⟩) (v := .int .i64 m) (by simp) hb
      have c_C2_2 := cell_b (p := ⟨w1.heap.size, 2, none⟩) (v := .slice a1 xs.length c1) (by simp) hb
      have r_c_2 := Lib.hid (rdb_b (rdb_b (r_c_1.out) (below_alloc _ _)) hb)
      have T_2 := Lib.hid (below_trans (below_trans (T_1.out) (below_alloc _ _)) hb)
      have z_2 : w1.heap.size + 1 ≤ w2.heap.size := (by have := hb.size; (try simp at this); omega)
      have r_X0_2 := Lib.hid (rdb_mono hX0 (show w1.heap.size + 1 ≤ _ by first | omega | (simp; done) | (simp; omega)))
      have lr_X0 := Lib.hid (rdb_lo r_X0_2.out)
      have hr_X0 := Lib.hid (rdb_hi r_X0_2.out)
      have r_X1_2 := Lib.hid (rdb_mono hX1 (show w1.heap.size + 1 ≤ _ by first | omega | (simp; done) | (simp; omega)))
      have lr_X1 := Lib.hid (rdb_lo r_X1_2.out)
      have hr_X1 := Lib.hid (rdb_hi r_X1_2.out)
      have ac_C0_2 := fun o => cell_b (c_C0_2) (below_alloc _ o)
      have bc_C0_2 := fun o o1 => cell_b (ac_C0_2 o) (below_alloc _ o1)
      have ac_C1_2 := fun o => cell_b (c_C1_2) (below_alloc _ o)
      have bc_C1_2 := fun o o1 => cell_b (ac_C1_2 o) (below_alloc _ o1)
      have ac_C2_2 := fun o => cell_b (c_C2_2) (below_alloc _ o)
      have bc_C2_2 := fun o o1 => cell_b (ac_C2_2 o) (below_alloc _ o1)
      clear hb r_c_1 T_1 hX0 hX1
      go_wp2_with fail
      (with_reducible refine (S_Arrive_q _ (p) (m) _ (xs) (t) (p) (m) (xs ++ [t]) (([] : List Int)) (true) (xs.length + 1) (0) (rdb_rd (rdb_b (r_c_2.out) (below_alloc _ _))) (by first | omega | (simp; done) | (simp; omega)) HQ1.out HQ2.out HQ3.out HQ4.out HQ5.out EN.out rfl).mono ?_)
      rintro e w3 ⟨aY0, cY0, aY1, cY1, rfl, hY0, hY1, hb⟩
      have c_C0_3 := cell_b (cell_b (c_C0_2) (below_alloc _ _)) hb
      have c_C1_3 := cell_b (cell_b (c_C1_2) (below_alloc _ _)) hb
      have c_C2_3 := cell_b (cell_b (c_C2_2) (below_alloc _ _)) hb
      have c_X0_3 := cell_b (p := ⟨w2.heap.size, 0, none⟩) (v := .int .i64 (p)) (by simp) hb
      have c_X1_3 := cell_b (p := ⟨w2.heap.size, 1, none⟩) (v := .int .i64 (m)) (by simp) hb
      have c_X2_3 := cell_b (p := ⟨w2.heap.size, 2, none⟩) (v := .slice aX0 (xs.length + 1) cX0) (by simp) hb
      have r_c_3 := Lib.hid (rdb_b (rdb_b (r_c_2.out) (below_alloc _ _)) hb)
      have r_X0_3 := Lib.hid (rdb_b (rdb_b (r_X0_2.out) (below_alloc _ _)) hb)
      have r_X1_3 := Lib.hid (rdb_b (rdb_b (r_X1_2.out) (below_alloc _ _)) hb)
      have T_3 := Lib.hid (below_trans (below_trans (T_2.out) (below_alloc _ _)) hb)
      have z_3 : w2.heap.size + 1 ≤ w3.heap.size := (by have := hb.size; (try simp at this); omega)
      have r_Y0_3 := Lib.hid (rdb_mono hY0 (show w2.heap.size + 1 ≤ _ by first | omega | (simp; done) | (simp; omega)))
      have lr_Y0 := Lib.hid (rdb_lo r_Y0_3.out)
      have hr_Y0 := Lib.hid (rdb_hi r_Y0_3.out)
      have r_Y1_3 := Lib.hid (rdb_mono hY1 (show w2.heap.size + 1 ≤ _ by first | omega | (simp; done) | (simp; omega)))
      have lr_Y1 := Lib.hid (rdb_lo r_Y1_3.out)
      have hr_Y1 := Lib.hid (rdb_hi r_Y1_3.out)
      have ac_C0_3 := fun o => cell_b (c_C0_3) (below_alloc _ o)
      have bc_C0_3 := fun o o1 => cell_b (ac_C0_3 o) (below_alloc _ o1)
      have ac_C1_3 := fun o => cell_b (c_C1_3) (below_alloc _ o)
      have bc_C1_3 := fun o o1 => cell_b (ac_C1_3 o) (below_alloc _ o1)
      have ac_C2_3 := fun o => cell_b (c_C2_3) (below_alloc _ o)
      have bc_C2_3 := fun o o1 => cell_b (ac_C2_3 o) (below_alloc _ o1)
      have ac_X0_3 := fun o => cell_b (c_X0_3) (below_alloc _ o)
      have bc_X0_3 := fun o o1 => cell_b (ac_X0_3 o) (below_alloc _ o1)
      have ac_X1_3 := fun o => cell_b (c_X1_3) (below_alloc _ o)
      have bc_X1_3 := fun o o1 => cell_b (ac_X1_3 o) (below_alloc _ o1)
      have ac_X2_3 := fun o => cell_b (c_X2_3) (below_alloc _ o)
      have bc_X2_3 := fun o o1 => cell_b (ac_X2_3 o) (below_alloc _ o1)
      clear hb c_C0_2 c_C1_2 c_C2_2 r_c_2 r_X0_2 r_X1_2 T_2 ac_C0_2 bc_C0_2 ac_C1_2 bc_C1_2 ac_C2_2 bc_C2_2 hY0 hY1
      go_wp2_with fail
      (with_reducible refine (L_wkBarrier _ (p) (m) _ _ (xs ++ [t]) (rdb_rd (rdb_b (r_X0_3.out) (below_alloc _ _))) (rdb_rd (rdb_b (r_Y0_3.out) (below_alloc _ _))) (by first | omega | (simp; done) | (simp; omega))).mono ?_)
      rintro e w4 ⟨rfl, hb⟩
      have c_C0_4 := cell_b (cell_b (c_C0_3) (below_alloc _ _)) hb
      have c_C1_4 := cell_b (cell_b (c_C1_3) (below_alloc _ _)) hb
      have c_C2_4 := cell_b (cell_b (c_C2_3) (below_alloc _ _)) hb
      have c_X0_4 := cell_b (cell_b (c_X0_3) (below_alloc _ _)) hb
      have c_X1_4 := cell_b (cell_b (c_X1_3) (below_alloc _ _)) hb
      have c_X2_4 := cell_b (cell_b (c_X2_3) (below_alloc _ _)) hb
      have c_Y0_4 := cell_b (p := ⟨w3.heap.size, 0, none⟩) (v := .int .i64 (p)) (by simp) hb
      have c_Y1_4 := cell_b (p := ⟨w3.heap.size, 1, none⟩) (v := .int .i64 (m)) (by simp) hb
      have c_Y2_4 := cell_b (p := ⟨w3.heap.size, 2, none⟩) (v := .slice aY0 (xs.length + 1) cY0) (by simp) hb
      have r_c_4 := Lib.hid (rdb_b (rdb_b (r_c_3.out) (below_alloc _ _)) hb)
      have r_X0_4 := Lib.hid (rdb_b (rdb_b (r_X0_3.out) (below_alloc _ _)) hb)
      have r_X1_4 := Lib.hid (rdb_b (rdb_b (r_X1_3.out) (below_alloc _ _)) hb)
      have r_Y0_4 := Lib.hid (rdb_b (rdb_b (r_Y0_3.out) (below_alloc _ _)) hb)
      have r_Y1_4 := Lib.hid (rdb_b (rdb_b (r_Y1_3.out) (below_alloc _ _)) hb)
      have T_4 := Lib.hid (below_trans (below_trans (T_3.out) (below_alloc _ _)) hb)
      have z_4 : w3.heap.size + 1 ≤ w4.heap.size := (by have := hb.size; (try simp at this); omega)
      have ac_C0_4 := fun o => cell_b (c_C0_4) (below_alloc _ o)
      have bc_C0_4 := fun o o1 => cell_b (ac_C0_4 o) (below_alloc _ o1)
      have ac_C1_4 := fun o => cell_b (c_C1_4) (below_alloc _ o)
      have bc_C1_4 := fun o o1 => cell_b (ac_C1_4 o) (below_alloc _ o1)
      have ac_C2_4 := fun o => cell_b (c_C2_4) (below_alloc _ o)
      have bc_C2_4 := fun o o1 => cell_b (ac_C2_4 o) (below_alloc _ o1)
      have ac_X0_4 := fun o => cell_b (c_X0_4) (below_alloc _ o)
      have bc_X0_4 := fun o o1 => cell_b (ac_X0_4 o) (below_alloc _ o1)
      have ac_X1_4 := fun o => cell_b (c_X1_4) (below_alloc _ o)
      have bc_X1_4 := fun o o1 => cell_b (ac_X1_4 o) (below_alloc _ o1)
      have ac_X2_4 := fun o => cell_b (c_X2_4) (below_alloc _ o)
      have bc_X2_4 := fun o o1 => cell_b (ac_X2_4 o) (below_alloc _ o1)
      have ac_Y0_4 := fun o => cell_b (c_Y0_4) (below_alloc _ o)
      have bc_Y0_4 := fun o o1 => cell_b (ac_Y0_4 o) (below_alloc _ o1)
      have ac_Y1_4 := fun o => cell_b (c_Y1_4) (below_alloc _ o)
      have bc_Y1_4 := fun o o1 => cell_b (ac_Y1_4 o) (below_alloc _ o1)
      have ac_Y2_4 := fun o => cell_b (c_Y2_4) (below_alloc _ o)
      have bc_Y2_4 := fun o o1 => cell_b (ac_Y2_4 o) (below_alloc _ o1)
      clear hb c_C0_3 c_C1_3 c_C2_3 c_X0_3 c_X1_3 c_X2_3 r_c_3 r_X0_3 r_X1_3 r_Y0_3 r_Y1_3 T_3 ac_C0_3 bc_C0_3 ac_C1_3 bc_C1_3 ac_C2_3 bc_C2_3 ac_X0_3 bc_X0_3 ac_X1_3 bc_X1_3 ac_X2_3 bc_X2_3
      go_wp2_with fail
      (with_reducible refine (eqB_true (drew_b (L_wkInts _ _ _ (([] : List Int)) (([] : List Int)) (rdb_rd (r_X1_4.out)) (rdb_rd (r_Y1_4.out)) (by first | omega | (simp; done) | (simp; omega)) (by first | omega | (simp; done) | (simp; omega))))).mono ?_)
      rintro e w5 ⟨rfl, hb⟩
      have c_C0_5 := cell_b (c_C0_4) hb
      have c_C1_5 := cell_b (c_C1_4) hb
      have c_C2_5 := cell_b (c_C2_4) hb
      have c_X0_5 := cell_b (c_X0_4) hb
      have c_X1_5 := cell_b (c_X1_4) hb
      have c_X2_5 := cell_b (c_X2_4) hb
      have c_Y0_5 := cell_b (c_Y0_4) hb
      have c_Y1_5 := cell_b (c_Y1_4) hb
      have c_Y2_5 := cell_b (c_Y2_4) hb
      have r_c_5 := Lib.hid (rdb_b (r_c_4.out) hb)
      have r_X0_5 := Lib.hid (rdb_b (r_X0_4.out) hb)
      have r_X1_5 := Lib.hid (rdb_b (r_X1_4.out) hb)
      have r_Y0_5 := Lib.hid (rdb_b (r_Y0_4.out) hb)
      have r_Y1_5 := Lib.hid (rdb_b (r_Y1_4.out) hb)
      have T_5 := Lib.hid (below_trans (T_4.out) hb)
      have z_5 : w4.heap.size ≤ w5.heap.size := (by have := hb.size; (try simp at this); omega)
      have ac_C0_5 := fun o => cell_b (c_C0_5) (below_alloc _ o)
      have bc_C0_5 := fun o o1 => cell_b (ac_C0_5 o) (below_alloc _ o1)
      have ac_C1_5 := fun o => cell_b (c_C1_5) (below_alloc _ o)
      have bc_C1_5 := fun o o1 => cell_b (ac_C1_5 o) (below_alloc _ o1)
      have ac_C2_5 := fun o => cell_b (c_C2_5) (below_alloc _ o)
      have bc_C2_5 := fun o o1 => cell_b (ac_C2_5 o) (below_alloc _ o1)
      have ac_X0_5 := fun o => cell_b (c_X0_5) (below_alloc _ o)
      have bc_X0_5 := fun o o1 => cell_b (ac_X0_5 o) (below_alloc _ o1)
      have ac_X1_5 := fun o => cell_b (c_X1_5) (below_alloc _ o)
      have bc_X1_5 := fun o o1 => cell_b (ac_X1_5 o) (below_alloc _ o1)
      have ac_X2_5 := fun o => cell_b (c_X2_5) (below_alloc _ o)
      have bc_X2_5 := fun o o1 => cell_b (ac_X2_5 o) (below_alloc _ o1)
      have ac_Y0_5 := fun o => cell_b (c_Y0_5) (below_alloc _ o)
      have bc_Y0_5 := fun o o1 => cell_b (ac_Y0_5 o) (below_alloc _ o1)
      have ac_Y1_5 := fun o => cell_b (c_Y1_5) (below_alloc _ o)
      have bc_Y1_5 := fun o o1 => cell_b (ac_Y1_5 o) (below_alloc _ o1)
      have ac_Y2_5 := fun o => cell_b (c_Y2_5) (below_alloc _ o)
      have bc_Y2_5 := fun o o1 => cell_b (ac_Y2_5 o) (below_alloc _ o1)
      clear hb c_C0_4 c_C1_4 c_C2_4 c_X0_4 c_X1_4 c_X2_4 c_Y0_4 c_Y1_4 c_Y2_4 r_c_4 r_X0_4 r_X1_4 r_Y0_4 r_Y1_4 T_4 ac_C0_4 bc_C0_4 ac_C1_4 bc_C1_4 ac_C2_4 bc_C2_4 ac_X0_4 bc_X0_4 ac_X1_4 bc_X1_4 ac_X2_4 bc_X2_4 ac_Y0_4 bc_Y0_4 ac_Y1_4 bc_Y1_4 ac_Y2_4 bc_Y2_4
      clear c_Y0_5 ac_Y0_5 bc_Y0_5 c_Y1_5 ac_Y1_5 bc_Y1_5 c_Y2_5 ac_Y2_5 bc_Y2_5 r_Y0_5 lr_Y0 hr_Y0 r_Y1_5 lr_Y1 hr_Y1
      obtain ⟨gz, oz, rfl, hcz, hcap9, hrz⟩ := rdb_last r_X0_5.out
      have c_Q0_5 := hcz
      have r_W_5 := Lib.hid hrz
      have lr_W := Lib.hid (rdb_lo hrz)
      have hr_W := Lib.hid (rdb_hi hrz)
      clear hcz hrz
      have i1 : (0 : Int) ≤ (xs.length : Int) := by omega
      have i2 : (xs.length : Int) < (xs.length : Int) + 1 := by omega
      go_wp2_with fail
      (with_reducible refine (I_BarrierValid_q _ (p) (m) _ (xs ++ [t])  (true) (rdb_rd (r_X0_5.out)) (by first | omega | (simp; done) | (simp; omega)) EB.out).mono ?_)
      rintro e w6 ⟨rfl, hb⟩
      have c_C0_6 := cell_b (c_C0_5) hb
      have c_C1_6 := cell_b (c_C1_5) hb
      have c_C2_6 := cell_b (c_C2_5) hb
      have c_X0_6 := cell_b (c_X0_5) hb
      have c_X1_6 := cell_b (c_X1_5) hb
      have c_X2_6 := cell_b (c_X2_5) hb
      have c_Q0_6 := cell_b (c_Q0_5) hb
      have r_c_6 := Lib.hid (rdb_b (r_c_5.out) hb)
      have r_X0_6 := Lib.hid (rdb_b (r_X0_5.out) hb)
      have r_X1_6 := Lib.hid (rdb_b (r_X1_5.out) hb)
      have r_W_6 := Lib.hid (rdb_b (r_W_5.out) hb)
      have T_6 := Lib.hid (below_trans (T_5.out) hb)
      have z_6 : w5.heap.size ≤ w6.heap.size := (by have := hb.size; (try simp at this); omega)
      have ac_C0_6 := fun o => cell_b (c_C0_6) (below_alloc _ o)
      have bc_C0_6 := fun o o1 => cell_b (ac_C0_6 o) (below_alloc _ o1)
      have ac_C1_6 := fun o => cell_b (c_C1_6) (below_alloc _ o)
      have bc_C1_6 := fun o o1 => cell_b (ac_C1_6 o) (below_alloc _ o1)
      have ac_C2_6 := fun o => cell_b (c_C2_6) (below_alloc _ o)
      have bc_C2_6 := fun o o1 => cell_b (ac_C2_6 o) (below_alloc _ o1)
      have ac_X0_6 := fun o => cell_b (c_X0_6) (below_alloc _ o)
      have bc_X0_6 := fun o o1 => cell_b (ac_X0_6 o) (below_alloc _ o1)
      have ac_X1_6 := fun o => cell_b (c_X1_6) (below_alloc _ o)
      have bc_X1_6 := fun o o1 => cell_b (ac_X1_6 o) (below_alloc _ o1)
      have ac_X2_6 := fun o => cell_b (c_X2_6) (below_alloc _ o)
      have bc_X2_6 := fun o o1 => cell_b (ac_X2_6 o) (below_alloc _ o1)
      have ac_Q0_6 := fun o => cell_b (c_Q0_6) (below_alloc _ o)
      have bc_Q0_6 := fun o o1 => cell_b (ac_Q0_6 o) (below_alloc _ o1)
      clear hb c_C0_5 c_C1_5 c_C2_5 c_X0_5 c_X1_5 c_X2_5 c_Q0_5 r_c_5 r_X0_5 r_X1_5 r_W_5 T_5 ac_C0_5 bc_C0_5 ac_C1_5 bc_C1_5 ac_C2_5 bc_C2_5 ac_X0_5 bc_X0_5 ac_X1_5 bc_X1_5 ac_X2_5 bc_X2_5
      go_wp2_with fail
      go_ret
      exact ⟨rfl, (T_6.out)⟩
    · have EN : Hid ((xs ++ [t]).length = xs.length + 1) := Lib.hid (by simp)
      have EB := Lib.hid hB
      have hq : ((xs.length : Int) + 1 == p) = true := by simpa using hpl
      clear hB hpl
      have HA := Lib.hid hA
      clear hA
      have HQ1 : Hid ((arr p m xs t).1 = p) := Lib.hid (by rw [HA.out])
      have HQ2 : Hid ((arr p m xs t).2.1 = m + 1) := Lib.hid (by rw [HA.out])
      have HQ3 : Hid ((arr p m xs t).2.2.1 = ([] : List Int)) := Lib.hid (by rw [HA.out])
      have HQ4 : Hid ((arr p m xs t).2.2.2.1 = xs ++ [t]) := Lib.hid (by rw [HA.out])
      have HQ5 : Hid ((arr p m xs t).2.2.2.2 = true) := Lib.hid (by rw [HA.out])
      go_wp2_with fail
      (with_reducible refine (I_Arrive_q _ (p) (m) _ (xs) (t) (p) (m + 1) (([] : List Int)) (xs ++ [t]) (true) (0) (xs.length + 1) (rdb_rd (rdb_b (r_c_1.out) (below_alloc _ _))) (by first | omega | (simp; done) | (simp; omega)) HQ1.out HQ2.out HQ3.out HQ4.out HQ5.out rfl EN.out).mono ?_)
      rintro e w2 ⟨aX0, cX0, aX1, cX1, rfl, hX0, hX1, hb⟩
      have c_C0_2 := cell_b (p := ⟨w1.heap.size, 0, none⟩) (v := .int .i64 p) (by simp) hb
      have c_C1_2 := cell_b (p := ⟨w1.heap.size, 1, none⟩) (v := .int .i64 m) (by simp) hb
      have c_C2_2 := cell_b (p := ⟨w1.heap.size, 2, none⟩) (v := .slice a1 xs.length c1) (by simp) hb
      have r_c_2 := Lib.hid (rdb_b (rdb_b (r_c_1.out) (below_alloc _ _)) hb)
      have T_2 := Lib.hid (below_trans (below_trans (T_1.out) (below_alloc _ _)) hb)
      have z_2 : w1.heap.size + 1 ≤ w2.heap.size := (by have := hb.size; (try simp at this); omega)
      have r_X0_2 := Lib.hid (rdb_mono hX0 (show w1.heap.size + 1 ≤ _ by first | omega | (simp; done) | (simp; omega)))
      have lr_X0 := Lib.hid (rdb_lo r_X0_2.out)
      have hr_X0 := Lib.hid (rdb_hi r_X0_2.out)
      have r_X1_2 := Lib.hid (rdb_mono hX1 (show w1.heap.size + 1 ≤ _ by first | omega | (simp; done) | (simp; omega)))
      have lr_X1 := Lib.hid (rdb_lo r_X1_2.out)
      have hr_X1 := Lib.hid (rdb_hi r_X1_2.out)
      have ac_C0_2 := fun o => cell_b (c_C0_2) (below_alloc _ o)
      have bc_C0_2 := fun o o1 => cell_b (ac_C0_2 o) (below_alloc _ o1)
      have ac_C1_2 := fun o => cell_b (c_C1_2) (below_alloc _ o)
      have bc_C1_2 := fun o o1 => cell_b (ac_C1_2 o) (below_alloc _ o1)
      have ac_C2_2 := fun o => cell_b (c_C2_2) (below_alloc _ o)
      have bc_C2_2 := fun o o1 => cell_b (ac_C2_2 o) (below_alloc _ o1)
      clear hb r_c_1 T_1 hX0 hX1
      go_wp2_with fail
      (with_reducible refine (S_Arrive_q _ (p) (m) _ (xs) (t) (p) (m + 1) (([] : List Int)) (xs ++ [t]) (true) (0) (xs.length + 1) (rdb_rd (rdb_b (r_c_2.out) (below_alloc _ _))) (by first | omega | (simp; done) | (simp; omega)) HQ1.out HQ2.out HQ3.out HQ4.out HQ5.out rfl EN.out).mono ?_)
      rintro e w3 ⟨aY0, cY0, aY1, cY1, rfl, hY0, hY1, hb⟩
      have c_C0_3 := cell_b (cell_b (c_C0_2) (below_alloc _ _)) hb
      have c_C1_3 := cell_b (cell_b (c_C1_2) (below_alloc _ _)) hb
      have c_C2_3 := cell_b (cell_b (c_C2_2) (below_alloc _ _)) hb
      have c_X0_3 := cell_b (p := ⟨w2.heap.size, 0, none⟩) (v := .int .i64 (p)) (by simp) hb
      have c_X1_3 := cell_b (p := ⟨w2.heap.size, 1, none⟩) (v := .int .i64 (m + 1)) (by simp) hb
      have c_X2_3 := cell_b (p := ⟨w2.heap.size, 2, none⟩) (v := .slice aX0 (0) cX0) (by simp) hb
      have r_c_3 := Lib.hid (rdb_b (rdb_b (r_c_2.out) (below_alloc _ _)) hb)
      have r_X0_3 := Lib.hid (rdb_b (rdb_b (r_X0_2.out) (below_alloc _ _)) hb)
      have r_X1_3 := Lib.hid (rdb_b (rdb_b (r_X1_2.out) (below_alloc _ _)) hb)
      have T_3 := Lib.hid (below_trans (below_trans (T_2.out) (below_alloc _ _)) hb)
      have z_3 : w2.heap.size + 1 ≤ w3.heap.size := (by have := hb.size; (try simp at this); omega)
      have r_Y0_3 := Lib.hid (rdb_mono hY0 (show w2.heap.size + 1 ≤ _ by first | omega | (simp; done) | (simp; omega)))
      have lr_Y0 := Lib.hid (rdb_lo r_Y0_3.out)
      have hr_Y0 := Lib.hid (rdb_hi r_Y0_3.out)
      have r_Y1_3 := Lib.hid (rdb_mono hY1 (show w2.heap.size + 1 ≤ _ by first | omega | (simp; done) | (simp; omega)))
      have lr_Y1 := Lib.hid (rdb_lo r_Y1_3.out)
      have hr_Y1 := Lib.hid (rdb_hi r_Y1_3.out)
      have ac_C0_3 := fun o => cell_b (c_C0_3) (below_alloc _ o)
      have bc_C0_3 := fun o o1 => cell_b (ac_C0_3 o) (below_alloc _ o1)
      have ac_C1_3 := fun o => cell_b (c_C1_3) (below_alloc _ o)
      have bc_C1_3 := fun o o1 => cell_b (ac_C1_3 o) (below_alloc _ o1)
      have ac_C2_3 := fun o => cell_b (c_C2_3) (below_alloc _ o)
      have bc_C2_3 := fun o o1 => cell_b (ac_C2_3 o) (below_alloc _ o1)
      have ac_X0_3 := fun o => cell_b (c_X0_3) (below_alloc _ o)
      have bc_X0_3 := fun o o1 => cell_b (ac_X0_3 o) (below_alloc _ o1)
      have ac_X1_3 := fun o => cell_b (c_X1_3) (below_alloc _ o)
      have bc_X1_3 := fun o o1 => cell_b (ac_X1_3 o) (below_alloc _ o1)
      have ac_X2_3 := fun o => cell_b (c_X2_3) (below_alloc _ o)
      have bc_X2_3 := fun o o1 => cell_b (ac_X2_3 o) (below_alloc _ o1)
      clear hb c_C0_2 c_C1_2 c_C2_2 r_c_2 r_X0_2 r_X1_2 T_2 ac_C0_2 bc_C0_2 ac_C1_2 bc_C1_2 ac_C2_2 bc_C2_2 hY0 hY1
      go_wp2_with fail
      (with_reducible refine (L_wkBarrier _ (p) (m + 1) _ _ (([] : List Int)) (rdb_rd (rdb_b (r_X0_3.out) (below_alloc _ _))) (rdb_rd (rdb_b (r_Y0_3.out) (below_alloc _ _))) (by first | omega | (simp; done) | (simp; omega))).mono ?_)
      rintro e w4 ⟨rfl, hb⟩
      have c_C0_4 := cell_b (cell_b (c_C0_3) (below_alloc _ _)) hb
      have c_C1_4 := cell_b (cell_b (c_C1_3) (below_alloc _ _)) hb
      have c_C2_4 := cell_b (cell_b (c_C2_3) (below_alloc _ _)) hb
      have c_X0_4 := cell_b (cell_b (c_X0_3) (below_alloc _ _)) hb
      have c_X1_4 := cell_b (cell_b (c_X1_3) (below_alloc _ _)) hb
      have c_X2_4 := cell_b (cell_b (c_X2_3) (below_alloc _ _)) hb
      have c_Y0_4 := cell_b (p := ⟨w3.heap.size, 0, none⟩) (v := .int .i64 (p)) (by simp) hb
      have c_Y1_4 := cell_b (p := ⟨w3.heap.size, 1, none⟩) (v := .int .i64 (m + 1)) (by simp) hb
      have c_Y2_4 := cell_b (p := ⟨w3.heap.size, 2, none⟩) (v := .slice aY0 (0) cY0) (by simp) hb
      have r_c_4 := Lib.hid (rdb_b (rdb_b (r_c_3.out) (below_alloc _ _)) hb)
      have r_X0_4 := Lib.hid (rdb_b (rdb_b (r_X0_3.out) (below_alloc _ _)) hb)
      have r_X1_4 := Lib.hid (rdb_b (rdb_b (r_X1_3.out) (below_alloc _ _)) hb)
      have r_Y0_4 := Lib.hid (rdb_b (rdb_b (r_Y0_3.out) (below_alloc _ _)) hb)
      have r_Y1_4 := Lib.hid (rdb_b (rdb_b (r_Y1_3.out) (below_alloc _ _)) hb)
      have T_4 := Lib.hid (below_trans (below_trans (T_3.out) (below_alloc _ _)) hb)
      have z_4 : w3.heap.size + 1 ≤ w4.heap.size := (by have := hb.size; (try simp at this); omega)
      have ac_C0_4 := fun o => cell_b (c_C0_4) (below_alloc _ o)
      have bc_C0_4 := fun o o1 => cell_b (ac_C0_4 o) (below_alloc _ o1)
      have ac_C1_4 := fun o => cell_b (c_C1_4) (below_alloc _ o)
      have bc_C1_4 := fun o o1 => cell_b (ac_C1_4 o) (below_alloc _ o1)
      have ac_C2_4 := fun o => cell_b (c_C2_4) (below_alloc _ o)
      have bc_C2_4 := fun o o1 => cell_b (ac_C2_4 o) (below_alloc _ o1)
      have ac_X0_4 := fun o => cell_b (c_X0_4) (below_alloc _ o)
      have bc_X0_4 := fun o o1 => cell_b (ac_X0_4 o) (below_alloc _ o1)
      have ac_X1_4 := fun o => cell_b (c_X1_4) (below_alloc _ o)
      have bc_X1_4 := fun o o1 => cell_b (ac_X1_4 o) (below_alloc _ o1)
      have ac_X2_4 := fun o => cell_b (c_X2_4) (below_alloc _ o)
      have bc_X2_4 := fun o o1 => cell_b (ac_X2_4 o) (below_alloc _ o1)
      have ac_Y0_4 := fun o => cell_b (c_Y0_4) (below_alloc _ o)
      have bc_Y0_4 := fun o o1 => cell_b (ac_Y0_4 o) (below_alloc _ o1)
      have ac_Y1_4 := fun o => cell_b (c_Y1_4) (below_alloc _ o)
      have bc_Y1_4 := fun o o1 => cell_b (ac_Y1_4 o) (below_alloc _ o1)
      have ac_Y2_4 := fun o => cell_b (c_Y2_4) (below_alloc _ o)
      have bc_Y2_4 := fun o o1 => cell_b (ac_Y2_4 o) (below_alloc _ o1)
      clear hb c_C0_3 c_C1_3 c_C2_3 c_X0_3 c_X1_3 c_X2_3 r_c_3 r_X0_3 r_X1_3 r_Y0_3 r_Y1_3 T_3 ac_C0_3 bc_C0_3 ac_C1_3 bc_C1_3 ac_C2_3 bc_C2_3 ac_X0_3 bc_X0_3 ac_X1_3 bc_X1_3 ac_X2_3 bc_X2_3
      go_wp2_with fail
      (with_reducible refine (eqB_true (drew_b (L_wkInts _ _ _ (xs ++ [t]) (xs ++ [t]) (rdb_rd (r_X1_4.out)) (rdb_rd (r_Y1_4.out)) (by first | omega | (simp; done) | (simp; omega)) (by first | omega | (simp; done) | (simp; omega))))).mono ?_)
      rintro e w5 ⟨rfl, hb⟩
      have c_C0_5 := cell_b (c_C0_4) hb
      have c_C1_5 := cell_b (c_C1_4) hb
      have c_C2_5 := cell_b (c_C2_4) hb
      have c_X0_5 := cell_b (c_X0_4) hb
      have c_X1_5 := cell_b (c_X1_4) hb
      have c_X2_5 := cell_b (c_X2_4) hb
      have c_Y0_5 := cell_b (c_Y0_4) hb
      have c_Y1_5 := cell_b (c_Y1_4) hb
      have c_Y2_5 := cell_b (c_Y2_4) hb
      have r_c_5 := Lib.hid (rdb_b (r_c_4.out) hb)
      have r_X0_5 := Lib.hid (rdb_b (r_X0_4.out) hb)
      have r_X1_5 := Lib.hid (rdb_b (r_X1_4.out) hb)
      have r_Y0_5 := Lib.hid (rdb_b (r_Y0_4.out) hb)
      have r_Y1_5 := Lib.hid (rdb_b (r_Y1_4.out) hb)
      have T_5 := Lib.hid (below_trans (T_4.out) hb)
      have z_5 : w4.heap.size ≤ w5.heap.size := (by have := hb.size; (try simp at this); omega)
      have ac_C0_5 := fun o => cell_b (c_C0_5) (below_alloc _ o)
      have bc_C0_5 := fun o o1 => cell_b (ac_C0_5 o) (below_alloc _ o1)
      have ac_C1_5 := fun o => cell_b (c_C1_5) (below_alloc _ o)
      have bc_C1_5 := fun o o1 => cell_b (ac_C1_5 o) (below_alloc _ o1)
      have ac_C2_5 := fun o => cell_b (c_C2_5) (below_alloc _ o)
      have bc_C2_5 := fun o o1 => cell_b (ac_C2_5 o) (below_alloc _ o1)
      have ac_X0_5 := fun o => cell_b (c_X0_5) (below_alloc _ o)
      have bc_X0_5 := fun o o1 => cell_b (ac_X0_5 o) (below_alloc _ o1)
      have ac_X1_5 := fun o => cell_b (c_X1_5) (below_alloc _ o)
      have bc_X1_5 := fun o o1 => cell_b (ac_X1_5 o) (below_alloc _ o1)
      have ac_X2_5 := fun o => cell_b (c_X2_5) (below_alloc _ o)
      have bc_X2_5 := fun o o1 => cell_b (ac_X2_5 o) (below_alloc _ o1)
      have ac_Y0_5 := fun o => cell_b (c_Y0_5) (below_alloc _ o)
      have bc_Y0_5 := fun o o1 => cell_b (ac_Y0_5 o) (below_alloc _ o1)
      have ac_Y1_5 := fun o => cell_b (c_Y1_5) (below_alloc _ o)
      have bc_Y1_5 := fun o o1 => cell_b (ac_Y1_5 o) (below_alloc _ o1)
      have ac_Y2_5 := fun o => cell_b (c_Y2_5) (below_alloc _ o)
      have bc_Y2_5 := fun o o1 => cell_b (ac_Y2_5 o) (below_alloc _ o1)
      clear hb c_C0_4 c_C1_4 c_C2_4 c_X0_4 c_X1_4 c_X2_4 c_Y0_4 c_Y1_4 c_Y2_4 r_c_4 r_X0_4 r_X1_4 r_Y0_4 r_Y1_4 T_4 ac_C0_4 bc_C0_4 ac_C1_4 bc_C1_4 ac_C2_4 bc_C2_4 ac_X0_4 bc_X0_4 ac_X1_4 bc_X1_4 ac_X2_4 bc_X2_4 ac_Y0_4 bc_Y0_4 ac_Y1_4 bc_Y1_4 ac_Y2_4 bc_Y2_4
      clear c_Y0_5 ac_Y0_5 bc_Y0_5 c_Y1_5 ac_Y1_5 bc_Y1_5 c_Y2_5 ac_Y2_5 bc_Y2_5 r_Y0_5 lr_Y0 hr_Y0 r_Y1_5 lr_Y1 hr_Y1
      obtain ⟨gz, oz, rfl, hcz, hcap9, hrz⟩ := rdb_last r_X1_5.out
      have c_Q0_5 := hcz
      have r_W_5 := Lib.hid hrz
      have lr_W := Lib.hid (rdb_lo hrz)
      have hr_W := Lib.hid (rdb_hi hrz)
      clear hcz hrz
      have i1 : (0 : Int) ≤ (xs.length : Int) := by omega
      have i2 : (xs.length : Int) < (xs.length : Int) + 1 := by omega
      have i3 : (xs.length : Int) ≤ (cX1 : Int) := by omega
      have y1 : IntKind.i64.wrap ((xs.length : Int) + 1 - 1) = (xs.length : Int) := by rw [IntWalk.i64_in _ (by omega)]; omega
      have y2 : IntKind.i64.wrap (xs.length : Int) = (xs.length : Int) := IntWalk.i64_in _ (by omega)
      have y3 : IntKind.i64.wrap (m + 1) = m + 1 := IntWalk.i64_in _ (by omega)
      go_wp2_with fail
      go_region_held3 (fun w' => w'.cell? ⟨w2.heap.size, 0, none⟩ = some (.int .i64 (p)) ∧ w'.cell? ⟨w2.heap.size, 1, none⟩ = some (.int .i64 (m + 1)) ∧ w'.cell? ⟨w2.heap.size, 2, none⟩ = some (.slice aX0 (0) cX0) ∧ w'.cell? ⟨w1.heap.size, 0, none⟩ = some (.int .i64 p) ∧ w'.cell? ⟨w1.heap.size, 1, none⟩ = some (.int .i64 m) ∧ w'.cell? ⟨w1.heap.size, 2, none⟩ = some (.slice a1 xs.length c1) ∧ w'.cell? ⟨gz, oz + xs.length, none⟩ = some (.int .i64 t)) (first | with_reducible exact ⟨c_X0_5, c_X1_5, c_X2_5, c_C0_5, c_C1_5, c_C2_5, c_Q0_5⟩ | with_reducible exact ⟨cell_b (c_X0_5) (drew_below _), cell_b (c_X1_5) (drew_below _), cell_b (c_X2_5) (drew_below _), cell_b (c_C0_5) (drew_below _), cell_b (c_C1_5) (drew_below _), cell_b (c_C2_5) (drew_below _), cell_b (c_Q0_5) (drew_below _)⟩ | with_reducible exact ⟨c_X0_6, c_X1_6, c_X2_6, c_C0_6, c_C1_6, c_C2_6, c_Q0_6⟩ | with_reducible exact ⟨c_X0_7, c_X1_7, c_X2_7, c_C0_7, c_C1_7, c_C2_7, c_Q0_7⟩ | go_keep)
        (first | (go_at_call 28; (with_reducible refine (I_BarrierValid_q _ (p) (m + 1) _ (([] : List Int))  (true) (rdb_rd (rdb_b (r_X0_5.out) (drew_below _))) (by first | omega | (simp; done) | (simp; omega)) EB.out).mono ?_); rintro e w6 ⟨rfl, hb⟩; have c_C0_6 := cell_b (cell_b (c_C0_5) (drew_below _)) hb; have c_C1_6 := cell_b (cell_b (c_C1_5) (drew_below _)) hb; have c_C2_6 := cell_b (cell_b (c_C2_5) (drew_below _)) hb; have c_X0_6 := cell_b (cell_b (c_X0_5) (drew_below _)) hb; have c_X1_6 := cell_b (cell_b (c_X1_5) (drew_below _)) hb; have c_X2_6 := cell_b (cell_b (c_X2_5) (drew_below _)) hb; have c_Q0_6 := cell_b (cell_b (c_Q0_5) (drew_below _)) hb; have r_c_6 := Lib.hid (rdb_b (rdb_b (r_c_5.out) (drew_below _)) hb); have r_X0_6 := Lib.hid (rdb_b (rdb_b (r_X0_5.out) (drew_below _)) hb); have r_X1_6 := Lib.hid (rdb_b (rdb_b (r_X1_5.out) (drew_below _)) hb); have r_W_6 := Lib.hid (rdb_b (rdb_b (r_W_5.out) (drew_below _)) hb); have T_6 := Lib.hid (below_trans (below_trans (T_5.out) (drew_below _)) hb); have z_6 : w5.heap.size ≤ w6.heap.size := (by have := hb.size; (try simp at this); omega); have ac_C0_6 := fun o => cell_b (c_C0_6) (below_alloc _ o); have bc_C0_6 := fun o o1 => cell_b (ac_C0_6 o) (below_alloc _ o1); have ac_C1_6 := fun o => cell_b (c_C1_6) (below_alloc _ o); have bc_C1_6 := fun o o1 => cell_b (ac_C1_6 o) (below_alloc _ o1); have ac_C2_6 := fun o => cell_b (c_C2_6) (below_alloc _ o); have bc_C2_6 := fun o o1 => cell_b (ac_C2_6 o) (below_alloc _ o1); have ac_X0_6 := fun o => cell_b (c_X0_6) (below_alloc _ o); have bc_X0_6 := fun o o1 => cell_b (ac_X0_6 o) (below_alloc _ o1); have ac_X1_6 := fun o => cell_b (c_X1_6) (below_alloc _ o); have bc_X1_6 := fun o o1 => cell_b (ac_X1_6 o) (below_alloc _ o1); have ac_X2_6 := fun o => cell_b (c_X2_6) (below_alloc _ o); have bc_X2_6 := fun o o1 => cell_b (ac_X2_6 o) (below_alloc _ o1); have ac_Q0_6 := fun o => cell_b (c_Q0_6) (below_alloc _ o); have bc_Q0_6 := fun o o1 => cell_b (ac_Q0_6 o) (below_alloc _ o1); clear hb c_C0_5 c_C1_5 c_C2_5 c_X0_5 c_X1_5 c_X2_5 c_Q0_5 r_c_5 r_X0_5 r_X1_5 r_W_5 T_5 ac_C0_5 bc_C0_5 ac_C1_5 bc_C1_5 ac_C2_5 bc_C2_5 ac_X0_5 bc_X0_5 ac_X1_5 bc_X1_5 ac_X2_5 bc_X2_5) | (go_at_call 24; (with_reducible refine (eqB_true (drew_b (L_wkInts _ _ _ (xs) (xs) (rdb_rd (r_W_6.out)) (rdb_rd (r_c_6.out)) (by first | omega | (simp; done) | (simp; omega)) (by first | omega | (simp; done) | (simp; omega))))).mono ?_); rintro e w7 ⟨rfl, hb⟩; have c_C0_7 := cell_b (c_C0_6) hb; have c_C1_7 := cell_b (c_C1_6) hb; have c_C2_7 := cell_b (c_C2_6) hb; have c_X0_7 := cell_b (c_X0_6) hb; have c_X1_7 := cell_b (c_X1_6) hb; have c_X2_7 := cell_b (c_X2_6) hb; have c_Q0_7 := cell_b (c_Q0_6) hb; have r_c_7 := Lib.hid (rdb_b (r_c_6.out) hb); have r_X0_7 := Lib.hid (rdb_b (r_X0_6.out) hb); have r_X1_7 := Lib.hid (rdb_b (r_X1_6.out) hb); have r_W_7 := Lib.hid (rdb_b (r_W_6.out) hb); have T_7 := Lib.hid (below_trans (T_6.out) hb); have z_7 : w6.heap.size ≤ w7.heap.size := (by have := hb.size; (try simp at this); omega); have ac_C0_7 := fun o => cell_b (c_C0_7) (below_alloc _ o); have bc_C0_7 := fun o o1 => cell_b (ac_C0_7 o) (below_alloc _ o1); have ac_C1_7 := fun o => cell_b (c_C1_7) (below_alloc _ o); have bc_C1_7 := fun o o1 => cell_b (ac_C1_7 o) (below_alloc _ o1); have ac_C2_7 := fun o => cell_b (c_C2_7) (below_alloc _ o); have bc_C2_7 := fun o o1 => cell_b (ac_C2_7 o) (below_alloc _ o1); have ac_X0_7 := fun o => cell_b (c_X0_7) (below_alloc _ o); have bc_X0_7 := fun o o1 => cell_b (ac_X0_7 o) (below_alloc _ o1); have ac_X1_7 := fun o => cell_b (c_X1_7) (below_alloc _ o); have bc_X1_7 := fun o o1 => cell_b (ac_X1_7 o) (below_alloc _ o1); have ac_X2_7 := fun o => cell_b (c_X2_7) (below_alloc _ o); have bc_X2_7 := fun o o1 => cell_b (ac_X2_7 o) (below_alloc _ o1); have ac_Q0_7 := fun o => cell_b (c_Q0_7) (below_alloc _ o); have bc_Q0_7 := fun o o1 => cell_b (ac_Q0_7 o) (below_alloc _ o1); clear hb c_C0_6 c_C1_6 c_C2_6 c_X0_6 c_X1_6 c_X2_6 c_Q0_6 r_c_6 r_X0_6 r_X1_6 r_W_6 T_6 ac_C0_6 bc_C0_6 ac_C1_6 bc_C1_6 ac_C2_6 bc_C2_6 ac_X0_6 bc_X0_6 ac_X1_6 bc_X1_6 ac_X2_6 bc_X2_6 ac_Q0_6 bc_Q0_6))
      go_wp2_with fail
      go_ret
      exact ⟨rfl, (T_7.out)⟩
    · have HA := Lib.hid hA
      clear hA
      have HQ1 : Hid ((arr p m xs t).1 = 0) := Lib.hid (by rw [HA.out])
      have HQ2 : Hid ((arr p m xs t).2.1 = 0) := Lib.hid (by rw [HA.out])
      have HQ3 : Hid ((arr p m xs t).2.2.1 = ([] : List Int)) := Lib.hid (by rw [HA.out])
      have HQ4 : Hid ((arr p m xs t).2.2.2.1 = ([] : List Int)) := Lib.hid (by rw [HA.out])
      have HQ5 : Hid ((arr p m xs t).2.2.2.2 = false) := Lib.hid (by rw [HA.out])
      go_wp2_with fail
      (with_reducible refine (I_Arrive_q _ (p) (m) _ (xs) (t) (0) (0) (([] : List Int)) (([] : List Int)) (false) (0) (0) (rdb_rd (rdb_b (r_c_1.out) (below_alloc _ _))) (by first | omega | (simp; done) | (simp; omega)) HQ1.out HQ2.out HQ3.out HQ4.out HQ5.out rfl rfl).mono ?_)
      rintro e w2 ⟨aX0, cX0, aX1, cX1, rfl, hX0, hX1, hb⟩
      have c_C0_2 := cell_b (p := ⟨w1.heap.size, 0, none⟩) (v := .int .i64 p) (by simp) hb
      have c_C1_2 := cell_b (p := ⟨w1.heap.size, 1, none⟩) (v := .int .i64 m) (by simp) hb
      have c_C2_2 := cell_b (p := ⟨w1.heap.size, 2, none⟩) (v := .slice a1 xs.length c1) (by simp) hb
      have r_c_2 := Lib.hid (rdb_b (rdb_b (r_c_1.out) (below_alloc _ _)) hb)
      have T_2 := Lib.hid (below_trans (below_trans (T_1.out) (below_alloc _ _)) hb)
      have z_2 : w1.heap.size + 1 ≤ w2.heap.size := (by have := hb.size; (try simp at this); omega)
      have r_X0_2 := Lib.hid (rdb_mono hX0 (show w1.heap.size + 1 ≤ _ by first | omega | (simp; done) | (simp; omega)))
      have lr_X0 := Lib.hid (rdb_lo r_X0_2.out)
      have hr_X0 := Lib.hid (rdb_hi r_X0_2.out)
      have r_X1_2 := Lib.hid (rdb_mono hX1 (show w1.heap.size + 1 ≤ _ by first | omega | (simp; done) | (simp; omega)))
      have lr_X1 := Lib.hid (rdb_lo r_X1_2.out)
      have hr_X1 := Lib.hid (rdb_hi r_X1_2.out)
      have ac_C0_2 := fun o => cell_b (c_C0_2) (below_alloc _ o)
      have bc_C0_2 := fun o o1 => cell_b (ac_C0_2 o) (below_alloc _ o1)
      have ac_C1_2 := fun o => cell_b (c_C1_2) (below_alloc _ o)
      have bc_C1_2 := fun o o1 => cell_b (ac_C1_2 o) (below_alloc _ o1)
      have ac_C2_2 := fun o => cell_b (c_C2_2) (below_alloc _ o)
      have bc_C2_2 := fun o o1 => cell_b (ac_C2_2 o) (below_alloc _ o1)
      clear hb r_c_1 T_1 hX0 hX1
      go_wp2_with fail
      (with_reducible refine (S_Arrive_q _ (p) (m) _ (xs) (t) (0) (0) (([] : List Int)) (([] : List Int)) (false) (0) (0) (rdb_rd (rdb_b (r_c_2.out) (below_alloc _ _))) (by first | omega | (simp; done) | (simp; omega)) HQ1.out HQ2.out HQ3.out HQ4.out HQ5.out rfl rfl).mono ?_)
      rintro e w3 ⟨aY0, cY0, aY1, cY1, rfl, hY0, hY1, hb⟩
      have c_C0_3 := cell_b (cell_b (c_C0_2) (below_alloc _ _)) hb
      have c_C1_3 := cell_b (cell_b (c_C1_2) (below_alloc _ _)) hb
      have c_C2_3 := cell_b (cell_b (c_C2_2) (below_alloc _ _)) hb
      have c_X0_3 := cell_b (p := ⟨w2.heap.size, 0, none⟩) (v := .int .i64 (0)) (by simp) hb
      have c_X1_3 := cell_b (p := ⟨w2.heap.size, 1, none⟩) (v := .int .i64 (0)) (by simp) hb
      have c_X2_3 := cell_b (p := ⟨w2.heap.size, 2, none⟩) (v := .slice aX0 (0) cX0) (by simp) hb
      have r_c_3 := Lib.hid (rdb_b (rdb_b (r_c_2.out) (below_alloc _ _)) hb)
      have r_X0_3 := Lib.hid (rdb_b (rdb_b (r_X0_2.out) (below_alloc _ _)) hb)
      have r_X1_3 := Lib.hid (rdb_b (rdb_b (r_X1_2.out) (below_alloc _ _)) hb)
      have T_3 := Lib.hid (below_trans (below_trans (T_2.out) (below_alloc _ _)) hb)
      have z_3 : w2.heap.size + 1 ≤ w3.heap.size := (by have := hb.size; (try simp at this); omega)
      have r_Y0_3 := Lib.hid (rdb_mono hY0 (show w2.heap.size + 1 ≤ _ by first | omega | (simp; done) | (simp; omega)))
      have lr_Y0 := Lib.hid (rdb_lo r_Y0_3.out)
      have hr_Y0 := Lib.hid (rdb_hi r_Y0_3.out)
      have r_Y1_3 := Lib.hid (rdb_mono hY1 (show w2.heap.size + 1 ≤ _ by first | omega | (simp; done) | (simp; omega)))
      have lr_Y1 := Lib.hid (rdb_lo r_Y1_3.out)
      have hr_Y1 := Lib.hid (rdb_hi r_Y1_3.out)
      have ac_C0_3 := fun o => cell_b (c_C0_3) (below_alloc _ o)
      have bc_C0_3 := fun o o1 => cell_b (ac_C0_3 o) (below_alloc _ o1)
      have ac_C1_3 := fun o => cell_b (c_C1_3) (below_alloc _ o)
      have bc_C1_3 := fun o o1 => cell_b (ac_C1_3 o) (below_alloc _ o1)
      have ac_C2_3 := fun o => cell_b (c_C2_3) (below_alloc _ o)
      have bc_C2_3 := fun o o1 => cell_b (ac_C2_3 o) (below_alloc _ o1)
      have ac_X0_3 := fun o => cell_b (c_X0_3) (below_alloc _ o)
      have bc_X0_3 := fun o o1 => cell_b (ac_X0_3 o) (below_alloc _ o1)
      have ac_X1_3 := fun o => cell_b (c_X1_3) (below_alloc _ o)
      have bc_X1_3 := fun o o1 => cell_b (ac_X1_3 o) (below_alloc _ o1)
      have ac_X2_3 := fun o => cell_b (c_X2_3) (below_alloc _ o)
      have bc_X2_3 := fun o o1 => cell_b (ac_X2_3 o) (below_alloc _ o1)
      clear hb c_C0_2 c_C1_2 c_C2_2 r_c_2 r_X0_2 r_X1_2 T_2 ac_C0_2 bc_C0_2 ac_C1_2 bc_C1_2 ac_C2_2 bc_C2_2 hY0 hY1
      go_wp2_with fail
      (with_reducible refine (L_wkBarrier _ (0) (0) _ _ (([] : List Int)) (rdb_rd (rdb_b (r_X0_3.out) (below_alloc _ _))) (rdb_rd (rdb_b (r_Y0_3.out) (below_alloc _ _))) (by first | omega | (simp; done) | (simp; omega))).mono ?_)
      rintro e w4 ⟨rfl, hb⟩
      have c_C0_4 := cell_b (cell_b (c_C0_3) (below_alloc _ _)) hb
      have c_C1_4 := cell_b (cell_b (c_C1_3) (below_alloc _ _)) hb
      have c_C2_4 := cell_b (cell_b (c_C2_3) (below_alloc _ _)) hb
      have c_X0_4 := cell_b (cell_b (c_X0_3) (below_alloc _ _)) hb
      have c_X1_4 := cell_b (cell_b (c_X1_3) (below_alloc _ _)) hb
      have c_X2_4 := cell_b (cell_b (c_X2_3) (below_alloc _ _)) hb
      have c_Y0_4 := cell_b (p := ⟨w3.heap.size, 0, none⟩) (v := .int .i64 (0)) (by simp) hb
      have c_Y1_4 := cell_b (p := ⟨w3.heap.size, 1, none⟩) (v := .int .i64 (0)) (by simp) hb
      have c_Y2_4 := cell_b (p := ⟨w3.heap.size, 2, none⟩) (v := .slice aY0 (0) cY0) (by simp) hb
      have r_c_4 := Lib.hid (rdb_b (rdb_b (r_c_3.out) (below_alloc _ _)) hb)
      have r_X0_4 := Lib.hid (rdb_b (rdb_b (r_X0_3.out) (below_alloc _ _)) hb)
      have r_X1_4 := Lib.hid (rdb_b (rdb_b (r_X1_3.out) (below_alloc _ _)) hb)
      have r_Y0_4 := Lib.hid (rdb_b (rdb_b (r_Y0_3.out) (below_alloc _ _)) hb)
      have r_Y1_4 := Lib.hid (rdb_b (rdb_b (r_Y1_3.out) (below_alloc _ _)) hb)
      have T_4 := Lib.hid (below_trans (below_trans (T_3.out) (below_alloc _ _)) hb)
      have z_4 : w3.heap.size + 1 ≤ w4.heap.size := (by have := hb.size; (try simp at this); omega)
      have ac_C0_4 := fun o => cell_b (c_C0_4) (below_alloc _ o)
      have bc_C0_4 := fun o o1 => cell_b (ac_C0_4 o) (below_alloc _ o1)
      have ac_C1_4 := fun o => cell_b (c_C1_4) (below_alloc _ o)
      have bc_C1_4 := fun o o1 => cell_b (ac_C1_4 o) (below_alloc _ o1)
      have ac_C2_4 := fun o => cell_b (c_C2_4) (below_alloc _ o)
      have bc_C2_4 := fun o o1 => cell_b (ac_C2_4 o) (below_alloc _ o1)
      have ac_X0_4 := fun o => cell_b (c_X0_4) (below_alloc _ o)
      have bc_X0_4 := fun o o1 => cell_b (ac_X0_4 o) (below_alloc _ o1)
      have ac_X1_4 := fun o => cell_b (c_X1_4) (below_alloc _ o)
      have bc_X1_4 := fun o o1 => cell_b (ac_X1_4 o) (below_alloc _ o1)
      have ac_X2_4 := fun o => cell_b (c_X2_4) (below_alloc _ o)
      have bc_X2_4 := fun o o1 => cell_b (ac_X2_4 o) (below_alloc _ o1)
      have ac_Y0_4 := fun o => cell_b (c_Y0_4) (below_alloc _ o)
      have bc_Y0_4 := fun o o1 => cell_b (ac_Y0_4 o) (below_alloc _ o1)
      have ac_Y1_4 := fun o => cell_b (c_Y1_4) (below_alloc _ o)
      have bc_Y1_4 := fun o o1 => cell_b (ac_Y1_4 o) (below_alloc _ o1)
      have ac_Y2_4 := fun o => cell_b (c_Y2_4) (below_alloc _ o)
      have bc_Y2_4 := fun o o1 => cell_b (ac_Y2_4 o) (below_alloc _ o1)
      clear hb c_C0_3 c_C1_3 c_C2_3 c_X0_3 c_X1_3 c_X2_3 r_c_3 r_X0_3 r_X1_3 r_Y0_3 r_Y1_3 T_3 ac_C0_3 bc_C0_3 ac_C1_3 bc_C1_3 ac_C2_3 bc_C2_3 ac_X0_3 bc_X0_3 ac_X1_3 bc_X1_3 ac_X2_3 bc_X2_3
      go_wp2_with fail
      (with_reducible refine (eqB_true (drew_b (L_wkInts _ _ _ (([] : List Int)) (([] : List Int)) (rdb_rd (r_X1_4.out)) (rdb_rd (r_Y1_4.out)) (by first | omega | (simp; done) | (simp; omega)) (by first | omega | (simp; done) | (simp; omega))))).mono ?_)
      rintro e w5 ⟨rfl, hb⟩
      have c_C0_5 := cell_b (c_C0_4) hb
      have c_C1_5 := cell_b (c_C1_4) hb
      have c_C2_5 := cell_b (c_C2_4) hb
      have c_X0_5 := cell_b (c_X0_4) hb
      have c_X1_5 := cell_b (c_X1_4) hb
      have c_X2_5 := cell_b (c_X2_4) hb
      have c_Y0_5 := cell_b (c_Y0_4) hb
      have c_Y1_5 := cell_b (c_Y1_4) hb
      have c_Y2_5 := cell_b (c_Y2_4) hb
      have r_c_5 := Lib.hid (rdb_b (r_c_4.out) hb)
      have r_X0_5 := Lib.hid (rdb_b (r_X0_4.out) hb)
      have r_X1_5 := Lib.hid (rdb_b (r_X1_4.out) hb)
      have r_Y0_5 := Lib.hid (rdb_b (r_Y0_4.out) hb)
      have r_Y1_5 := Lib.hid (rdb_b (r_Y1_4.out) hb)
      have T_5 := Lib.hid (below_trans (T_4.out) hb)
      have z_5 : w4.heap.size ≤ w5.heap.size := (by have := hb.size; (try simp at this); omega)
      have ac_C0_5 := fun o => cell_b (c_C0_5) (below_alloc _ o)
      have bc_C0_5 := fun o o1 => cell_b (ac_C0_5 o) (below_alloc _ o1)
      have ac_C1_5 := fun o => cell_b (c_C1_5) (below_alloc _ o)
      have bc_C1_5 := fun o o1 => cell_b (ac_C1_5 o) (below_alloc _ o1)
      have ac_C2_5 := fun o => cell_b (c_C2_5) (below_alloc _ o)
      have bc_C2_5 := fun o o1 => cell_b (ac_C2_5 o) (below_alloc _ o1)
      have ac_X0_5 := fun o => cell_b (c_X0_5) (below_alloc _ o)
      have bc_X0_5 := fun o o1 => cell_b (ac_X0_5 o) (below_alloc _ o1)
      have ac_X1_5 := fun o => cell_b (c_X1_5) (below_alloc _ o)
      have bc_X1_5 := fun o o1 => cell_b (ac_X1_5 o) (below_alloc _ o1)
      have ac_X2_5 := fun o => cell_b (c_X2_5) (below_alloc _ o)
      have bc_X2_5 := fun o o1 => cell_b (ac_X2_5 o) (below_alloc _ o1)
      have ac_Y0_5 := fun o => cell_b (c_Y0_5) (below_alloc _ o)
      have bc_Y0_5 := fun o o1 => cell_b (ac_Y0_5 o) (below_alloc _ o1)
      have ac_Y1_5 := fun o => cell_b (c_Y1_5) (below_alloc _ o)
      have bc_Y1_5 := fun o o1 => cell_b (ac_Y1_5 o) (below_alloc _ o1)
      have ac_Y2_5 := fun o => cell_b (c_Y2_5) (below_alloc _ o)
      have bc_Y2_5 := fun o o1 => cell_b (ac_Y2_5 o) (below_alloc _ o1)
      clear hb c_C0_4 c_C1_4 c_C2_4 c_X0_4 c_X1_4 c_X2_4 c_Y0_4 c_Y1_4 c_Y2_4 r_c_4 r_X0_4 r_X1_4 r_Y0_4 r_Y1_4 T_4 ac_C0_4 bc_C0_4 ac_C1_4 bc_C1_4 ac_C2_4 bc_C2_4 ac_X0_4 bc_X0_4 ac_X1_4 bc_X1_4 ac_X2_4 bc_X2_4 ac_Y0_4 bc_Y0_4 ac_Y1_4 bc_Y1_4 ac_Y2_4 bc_Y2_4
      go_wp2_with fail
      (with_reducible refine (L_wkBarrier _ 0 0 _ _ (([] : List Int)) (rdb_rd (r_X0_5.out)) (rdb_rd (r_Y0_5.out)) (by first | omega | (simp; done) | (simp; omega))).mono ?_)
      rintro e w6 ⟨rfl, hb⟩
      have c_C0_6 := cell_b (c_C0_5) hb
      have c_C1_6 := cell_b (c_C1_5) hb
      have c_C2_6 := cell_b (c_C2_5) hb
      have c_X0_6 := cell_b (c_X0_5) hb
      have c_X1_6 := cell_b (c_X1_5) hb
      have c_X2_6 := cell_b (c_X2_5) hb
      have c_Y0_6 := cell_b (c_Y0_5) hb
      have c_Y1_6 := cell_b (c_Y1_5) hb
      have c_Y2_6 := cell_b (c_Y2_5) hb
      have r_c_6 := Lib.hid (rdb_b (r_c_5.out) hb)
      have r_X0_6 := Lib.hid (rdb_b (r_X0_5.out) hb)
      have r_X1_6 := Lib.hid (rdb_b (r_X1_5.out) hb)
      have r_Y0_6 := Lib.hid (rdb_b (r_Y0_5.out) hb)
      have r_Y1_6 := Lib.hid (rdb_b (r_Y1_5.out) hb)
      have T_6 := Lib.hid (below_trans (T_5.out) hb)
      have z_6 : w5.heap.size ≤ w6.heap.size := (by have := hb.size; (try simp at this); omega)
      have ac_C0_6 := fun o => cell_b (c_C0_6) (below_alloc _ o)
      have bc_C0_6 := fun o o1 => cell_b (ac_C0_6 o) (below_alloc _ o1)
      have ac_C1_6 := fun o => cell_b (c_C1_6) (below_alloc _ o)
      have bc_C1_6 := fun o o1 => cell_b (ac_C1_6 o) (below_alloc _ o1)
      have ac_C2_6 := fun o => cell_b (c_C2_6) (below_alloc _ o)
      have bc_C2_6 := fun o o1 => cell_b (ac_C2_6 o) (below_alloc _ o1)
      have ac_X0_6 := fun o => cell_b (c_X0_6) (below_alloc _ o)
      have bc_X0_6 := fun o o1 => cell_b (ac_X0_6 o) (below_alloc _ o1)
      have ac_X1_6 := fun o => cell_b (c_X1_6) (below_alloc _ o)
      have bc_X1_6 := fun o o1 => cell_b (ac_X1_6 o) (below_alloc _ o1)
      have ac_X2_6 := fun o => cell_b (c_X2_6) (below_alloc _ o)
      have bc_X2_6 := fun o o1 => cell_b (ac_X2_6 o) (below_alloc _ o1)
      have ac_Y0_6 := fun o => cell_b (c_Y0_6) (below_alloc _ o)
      have bc_Y0_6 := fun o o1 => cell_b (ac_Y0_6 o) (below_alloc _ o1)
      have ac_Y1_6 := fun o => cell_b (c_Y1_6) (below_alloc _ o)
      have bc_Y1_6 := fun o o1 => cell_b (ac_Y1_6 o) (below_alloc _ o1)
      have ac_Y2_6 := fun o => cell_b (c_Y2_6) (below_alloc _ o)
      have bc_Y2_6 := fun o o1 => cell_b (ac_Y2_6 o) (below_alloc _ o1)
      clear hb c_C0_5 c_C1_5 c_C2_5 c_X0_5 c_X1_5 c_X2_5 c_Y0_5 c_Y1_5 c_Y2_5 r_c_5 r_X0_5 r_X1_5 r_Y0_5 r_Y1_5 T_5 ac_C0_5 bc_C0_5 ac_C1_5 bc_C1_5 ac_C2_5 bc_C2_5 ac_X0_5 bc_X0_5 ac_X1_5 bc_X1_5 ac_X2_5 bc_X2_5 ac_Y0_5 bc_Y0_5 ac_Y1_5 bc_Y1_5 ac_Y2_5 bc_Y2_5
      go_wp2_with fail
      (with_reducible refine (eqB_true (drew_b (L_wkInts _ _ _ (([] : List Int)) (([] : List Int)) (rdb_rd (r_X1_6.out)) (rdb_rd (r_Y1_6.out)) (by first | omega | (simp; done) | (simp; omega)) (by first | omega | (simp; done) | (simp; omega))))).mono ?_)
      rintro e w7 ⟨rfl, hb⟩
      have c_C0_7 := cell_b (c_C0_6) hb
      have c_C1_7 := cell_b (c_C1_6) hb
      have c_C2_7 := cell_b (c_C2_6) hb
      have c_X0_7 := cell_b (c_X0_6) hb
      have c_X1_7 := cell_b (c_X1_6) hb
      have c_X2_7 := cell_b (c_X2_6) hb
      have c_Y0_7 := cell_b (c_Y0_6) hb
      have c_Y1_7 := cell_b (c_Y1_6) hb
      have c_Y2_7 := cell_b (c_Y2_6) hb
      have r_c_7 := Lib.hid (rdb_b (r_c_6.out) hb)
      have r_X0_7 := Lib.hid (rdb_b (r_X0_6.out) hb)
      have r_X1_7 := Lib.hid (rdb_b (r_X1_6.out) hb)
      have r_Y0_7 := Lib.hid (rdb_b (r_Y0_6.out) hb)
      have r_Y1_7 := Lib.hid (rdb_b (r_Y1_6.out) hb)
      have T_7 := Lib.hid (below_trans (T_6.out) hb)
      have z_7 : w6.heap.size ≤ w7.heap.size := (by have := hb.size; (try simp at this); omega)
      have ac_C0_7 := fun o => cell_b (c_C0_7) (below_alloc _ o)
      have bc_C0_7 := fun o o1 => cell_b (ac_C0_7 o) (below_alloc _ o1)
      have ac_C1_7 := fun o => cell_b (c_C1_7) (below_alloc _ o)
      have bc_C1_7 := fun o o1 => cell_b (ac_C1_7 o) (below_alloc _ o1)
      have ac_C2_7 := fun o => cell_b (c_C2_7) (below_alloc _ o)
      have bc_C2_7 := fun o o1 => cell_b (ac_C2_7 o) (below_alloc _ o1)
      have ac_X0_7 := fun o => cell_b (c_X0_7) (below_alloc _ o)
      have bc_X0_7 := fun o o1 => cell_b (ac_X0_7 o) (below_alloc _ o1)
      have ac_X1_7 := fun o => cell_b (c_X1_7) (below_alloc _ o)
      have bc_X1_7 := fun o o1 => cell_b (ac_X1_7 o) (below_alloc _ o1)
      have ac_X2_7 := fun o => cell_b (c_X2_7) (below_alloc _ o)
      have bc_X2_7 := fun o o1 => cell_b (ac_X2_7 o) (below_alloc _ o1)
      have ac_Y0_7 := fun o => cell_b (c_Y0_7) (below_alloc _ o)
      have bc_Y0_7 := fun o o1 => cell_b (ac_Y0_7 o) (below_alloc _ o1)
      have ac_Y1_7 := fun o => cell_b (c_Y1_7) (below_alloc _ o)
      have bc_Y1_7 := fun o o1 => cell_b (ac_Y1_7 o) (below_alloc _ o1)
      have ac_Y2_7 := fun o => cell_b (c_Y2_7) (below_alloc _ o)
      have bc_Y2_7 := fun o o1 => cell_b (ac_Y2_7 o) (below_alloc _ o1)
      clear hb c_C0_6 c_C1_6 c_C2_6 c_X0_6 c_X1_6 c_X2_6 c_Y0_6 c_Y1_6 c_Y2_6 r_c_6 r_X0_6 r_X1_6 r_Y0_6 r_Y1_6 T_6 ac_C0_6 bc_C0_6 ac_C1_6 bc_C1_6 ac_C2_6 bc_C2_6 ac_X0_6 bc_X0_6 ac_X1_6 bc_X1_6 ac_X2_6 bc_X2_6 ac_Y0_6 bc_Y0_6 ac_Y1_6 bc_Y1_6 ac_Y2_6 bc_Y2_6
      go_wp2_with fail
      go_ret
      exact ⟨rfl, (T_7.out)⟩
end Go.Proofs.Ytkglngcopflgeaa
