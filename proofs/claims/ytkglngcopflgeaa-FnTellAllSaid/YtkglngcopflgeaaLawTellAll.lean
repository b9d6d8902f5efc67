/- The law FnTellAll: the walk. -/
import Derived.Test.YtkglngcopflgeaaDrawCond
import Derived.Test.YtkglngcopflgeaaQuickCond
import Derived.Deep.RegionHeld3
import Derived.Deep.DrawnRows
namespace Go.Proofs.Ytkglngcopflgeaa
open Go.RowKit
attribute [local go_sem ↓] Go.wp_at_zero Go.wp_at_succ
set_option maxHeartbeats 4000000 in
set_option maxRecDepth 100000 in
theorem W_FnTellAll (w : World) (v : Value) (n : Nat) (hv : RdY w v n) (hm : n ≤ 9223372036854775807) :
    Calls Try.prog 5 #[v] w fun e w' => e = .returned (.bool true) ∧ Below w.heap.size w w' := by
  have HV := Lib.hid hv
  obtain ⟨a, cap, rfl, hcap, hnc, hr⟩ := hv
  clear hr hnc
  by_cases hbig : 1048576 < n
  · go_enter Try.func5, Try.ntmps5
    go_wp2
    go_ret
    exact ⟨rfl, Below.refl _ _⟩
  · go_enter Try.func5, Try.ntmps5
    have T_0 : Hid (Below w.heap.size w w) := Lib.hid (Below.refl _ _)
    skip
    go_wp2_with fail
    (with_reducible refine (S_DrawTellAll _ _ n HV.out (by omega)).mono ?_)
    rintro e w1 ⟨xs, a1, c1, rfl, hx, hd, hb⟩
    have T_1 := Lib.hid (below_trans (T_0.out) hb)
    have z_1 : w.heap.size ≤ w1.heap.size := (by have := hb.size; (try simp at this); omega)
    have r_c_1 := Lib.hid (rdb_mono hd (show w.heap.size ≤ _ by first | omega | (simp; done) | (simp; omega)))
    have lr_c := Lib.hid (rdb_lo r_c_1.out)
    have hr_c := Lib.hid (rdb_hi r_c_1.out)
    clear hb T_0 hd
    by_cases hv1 : vt xs = true
    · have HV1 : Hid (vt xs = true) := Lib.hid (by simpa using hv1)
      clear hv1
      have HQ1 : Hid (okL (vt xs) xs = xs) := Lib.hid (by simp [HV1.out, okL])
      have HQ2 : Hid (vt xs = true) := Lib.hid (HV1.out)
      go_wp2_with fail
      (with_reducible refine (I_TellAll_q _  _ (xs)  (([] : List Int)) (xs) (true) (0) ((xs).length) (rdb_rd (rdb_b (r_c_1.out) (below_alloc _ _))) (by first | omega | (simp; done) | (simp; omega)) rfl HQ1.out HQ2.out rfl rfl).mono ?_)
      rintro e w2 ⟨aX0, cX0, aX1, cX1, rfl, hX0, hX1, hb⟩
      have c_C0_2 := cell_b (p := ⟨w1.heap.size, 0, none⟩) (v := .slice a1 xs.length c1) (by simp) hb
      have r_c_2 := Lib.hid (rdb_b (rdb_b (r_c_1.out) (below_alloc _ _)) hb)
      have T_2 := Lib.hid (below_trans (below_trans (T_1.out) (below_alloc _ _)) hb)
      have z_2 : w1.heap.size + 1 ≤ w2.heap.size := (by have := hb.size; (try simp at this); omega)
      have r_X0_2 := Lib.hid (rdb_mono hX0 (show w1.heap.size + 1 ≤ _ by first | omega | (simp; done) | (simp; omega)))
      have lr_X0 := Lib.hid (rdb_lo r_X0_2.out)
      have hr_X0 := Lib.hid (rdb_hi r_X0_2.out)
      have r_X1_2 := Lib.hid (rdb_mono hX1 (show w1.heap.size + 1 ≤ _ by first | omega | (simp; done) | (simp; omega)))
      have lr_X1 := Lib.hid (rdb_lo r_X1_2.out)
      have hr_X1 := Lib.hid (rdb_hi r_X1_2.out)
      have ac_C0_2 := fun o => cell_b (c_C0_2) (below_alloc _ o)
      have bc_C0_2 := fun o o1 => cell_b (ac_C0_2 o) (below_alloc _ o1)
      clear hb r_c_1 T_1 hX0 hX1
      go_wp2_with fail
      (with_reducible refine (S_TellAll_q _  _ (xs)  (([] : List Int)) (xs) (true) (0) ((xs).length) (rdb_rd (rdb_b (r_c_2.out) (below_alloc _ _))) (by first | omega | (simp; done) | (simp; omega)) rfl HQ1.out HQ2.out rfl rfl).mono ?_)
      rintro e w3 ⟨aY0, cY0, aY1, cY1, rfl, hY0, hY1, hb⟩
      have c_C0_3 := cell_b (cell_b (c_C0_2) (below_alloc _ _)) hb
      have c_X0_3 := cell_b (p := ⟨w2.heap.size, 0, none⟩) (v := .slice aX0 (0) cX0) (by simp) hb
      have r_c_3 := Lib.hid (rdb_b (rdb_b (r_c_2.out) (below_alloc _ _)) hb)
      have r_X0_3 := Lib.hid (rdb_b (rdb_b (r_X0_2.out) (below_alloc _ _)) hb)
      have r_X1_3 := Lib.hid (rdb_b (rdb_b (r_X1_2.out) (below_alloc _ _)) hb)
      have T_3 := Lib.hid (below_trans (below_trans (T_2.out) (below_alloc _ _)) hb)
      have z_3 : w2.heap.size + 1 ≤ w3.heap.size := (by have := hb.size; (try simp at this); omega)
      have r_Y0_3 := Lib.hid (rdb_mono hY0 (show w2.heap.size + 1 ≤ _ by first | omega | (simp; done) | (simp; omega)))
      have lr_Y0 := Lib.hid (rdb_lo r_Y0_3.out)
      have hr_Y0 := Lib.hid (rdb_hi r_Y0_3.out)
      have r_Y1_3 := Lib.hid (rdb_mono hY1 (show w2.heap.size + 1 ≤ _ by first | omega | (simp; done) | (simp; omega)))
      have lr_Y1 := Lib.hid (rdb_lo r_Y1_3.out)
      have hr_Y1 := Lib.hid (rdb_hi r_Y1_3.out)
      have ac_C0_3 := fun o => cell_b (c_C0_3) (below_alloc _ o)
      have bc_C0_3 := fun o o1 => cell_b (ac_C0_3 o) (below_alloc _ o1)
      have ac_X0_3 := fun o => cell_b (c_X0_3) (below_alloc _ o)
      have bc_X0_3 := fun o o1 => cell_b (ac_X0_3 o) (below_alloc _ o1)
      clear hb c_C0_2 r_c_2 r_X0_2 r_X1_2 T_2 ac_C0_2 bc_C0_2 hY0 hY1
      go_wp2_with fail
      (with_reducible refine (eqB_true (drew_b (L_wkInts _ _ _ (([] : List Int)) (([] : List Int)) (rdb_rd (rdb_b (r_X0_3.out) (below_alloc _ _))) (rdb_rd (rdb_b (r_Y0_3.out) (below_alloc _ _))) (by first | omega | (simp; done) | (simp; omega)) (by first | omega | (simp; done) | (simp; omega))))).mono ?_)
      rintro e w4 ⟨rfl, hb⟩
      have c_C0_4 := cell_b (cell_b (c_C0_3) (below_alloc _ _)) hb
      have c_X0_4 := cell_b (cell_b (c_X0_3) (below_alloc _ _)) hb
      have c_Y0_4 := cell_b (p := ⟨w3.heap.size, 0, none⟩) (v := .slice aY0 (0) cY0) (by simp) hb
      have r_c_4 := Lib.hid (rdb_b (rdb_b (r_c_3.out) (below_alloc _ _)) hb)
      have r_X0_4 := Lib.hid (rdb_b (rdb_b (r_X0_3.out) (below_alloc _ _)) hb)
      have r_X1_4 := Lib.hid (rdb_b (rdb_b (r_X1_3.out) (below_alloc _ _)) hb)
      have r_Y0_4 := Lib.hid (rdb_b (rdb_b (r_Y0_3.out) (below_alloc _ _)) hb)
      have r_Y1_4 := Lib.hid (rdb_b (rdb_b (r_Y1_3.out) (below_alloc _ _)) hb)
      have T_4 := Lib.hid (below_trans (below_trans (T_3.out) (below_alloc _ _)) hb)
      have z_4 : w3.heap.size + 1 ≤ w4.heap.size := (by have := hb.size; (try simp at this); omega)
      have ac_C0_4 := fun o => cell_b (c_C0_4) (below_alloc _ o)
      have bc_C0_4 := fun o o1 => cell_b (ac_C0_4 o) (below_alloc _ o1)
      have ac_X0_4 := fun o => cell_b (c_X0_4) (below_alloc _ o)
      have bc_X0_4 := fun o o1 => cell_b (ac_X0_4 o) (below_alloc _ o1)
      have ac_Y0_4 := fun o => cell_b (c_Y0_4) (below_alloc _ o)
      have bc_Y0_4 := fun o o1 => cell_b (ac_Y0_4 o) (below_alloc _ o1)
      clear hb c_C0_3 c_X0_3 r_c_3 r_X0_3 r_X1_3 r_Y0_3 r_Y1_3 T_3 ac_C0_3 bc_C0_3 ac_X0_3 bc_X0_3
      go_wp2_with fail
      (with_reducible refine (eqB_true (drew_b (L_wkInts _ _ _ (xs) (xs) (rdb_rd (r_X1_4.out)) (rdb_rd (r_Y1_4.out)) (by first | omega | (simp; done) | (simp; omega)) (by first | omega | (simp; done) | (simp; omega))))).mono ?_)
      rintro e w5 ⟨rfl, hb⟩
      have c_C0_5 := cell_b (c_C0_4) hb
      have c_X0_5 := cell_b (c_X0_4) hb
      have c_Y0_5 := cell_b (c_Y0_4) hb
      have r_c_5 := Lib.hid (rdb_b (r_c_4.out) hb)
      have r_X0_5 := Lib.hid (rdb_b (r_X0_4.out) hb)
      have r_X1_5 := Lib.hid (rdb_b (r_X1_4.out) hb)
      have r_Y0_5 := Lib.hid (rdb_b (r_Y0_4.out) hb)
      have r_Y1_5 := Lib.hid (rdb_b (r_Y1_4.out) hb)
      have T_5 := Lib.hid (below_trans (T_4.out) hb)
      have z_5 : w4.heap.size ≤ w5.heap.size := (by have := hb.size; (try simp at this); omega)
      have ac_C0_5 := fun o => cell_b (c_C0_5) (below_alloc _ o)
      have bc_C0_5 := fun o o1 => cell_b (ac_C0_5 o) (below_alloc _ o1)
      have ac_X0_5 := fun o => cell_b (c_X0_5) (below_alloc _ o)
      have bc_X0_5 := fun o o1 => cell_b (ac_X0_5 o) (below_alloc _ o1)
      have ac_Y0_5 := fun o => cell_b (c_Y0_5) (below_alloc _ o)
      have bc_Y0_5 := fun o o1 => cell_b (ac_Y0_5 o) (below_alloc _ o1)
      clear hb c_C0_4 c_X0_4 c_Y0_4 r_c_4 r_X0_4 r_X1_4 r_Y0_4 r_Y1_4 T_4 ac_C0_4 bc_C0_4 ac_X0_4 bc_X0_4 ac_Y0_4 bc_Y0_4
      go_wp2_with fail
      (with_reducible refine (I_CondValid_q _  _ (xs)  (true) (rdb_rd (r_c_5.out)) (by first | omega | (simp; done) | (simp; omega)) HQ2.out).mono ?_)
      rintro e w6 ⟨rfl, hb⟩
      have c_C0_6 := cell_b (c_C0_5) hb
      have c_X0_6 := cell_b (c_X0_5) hb
      have c_Y0_6 := cell_b (c_Y0_5) hb
      have r_c_6 := Lib.hid (rdb_b (r_c_5.out) hb)
      have r_X0_6 := Lib.hid (rdb_b (r_X0_5.out) hb)
      have r_X1_6 := Lib.hid (rdb_b (r_X1_5.out) hb)
      have r_Y0_6 := Lib.hid (rdb_b (r_Y0_5.out) hb)
      have r_Y1_6 := Lib.hid (rdb_b (r_Y1_5.out) hb)
      have T_6 := Lib.hid (below_trans (T_5.out) hb)
      have z_6 : w5.heap.size ≤ w6.heap.size := (by have := hb.size; (try simp at this); omega)
      have ac_C0_6 := fun o => cell_b (c_C0_6) (below_alloc _ o)
      have bc_C0_6 := fun o o1 => cell_b (ac_C0_6 o) (below_alloc _ o1)
      have ac_X0_6 := fun o => cell_b (c_X0_6) (below_alloc _ o)
      have bc_X0_6 := fun o o1 => cell_b (ac_X0_6 o) (below_alloc _ o1)
      have ac_Y0_6 := fun o => cell_b (c_Y0_6) (below_alloc _ o)
      have bc_Y0_6 := fun o o1 => cell_b (ac_Y0_6 o) (below_alloc _ o1)
      clear hb c_C0_5 c_X0_5 c_Y0_5 r_c_5 r_X0_5 r_X1_5 r_Y0_5 r_Y1_5 T_5 ac_C0_5 bc_C0_5 ac_X0_5 bc_X0_5 ac_Y0_5 bc_Y0_5
      clear r_Y0_6 lr_Y0 hr_Y0 r_Y1_6 lr_Y1 hr_Y1 c_Y0_6 ac_Y0_6 bc_Y0_6
      have HQ3 : Hid (okL (vt []) ([] : List Int).tail = []) := Lib.hid (by simp [okL])
      have HQ4 : Hid (okL (vt []) (([] : List Int).take 1) = []) := Lib.hid (by simp [okL])
      have HQ5 : Hid (vt [] = true) := Lib.hid (by simp [vt, dist])
      go_wp2_with fail
      (with_reducible refine (I_TellOne_q _  _ (([] : List Int))  (([] : List Int)) (([] : List Int)) (true) (0) (0) (rdb_rd (r_X0_6.out)) (by first | omega | (simp; done) | (simp; omega)) HQ3.out HQ4.out HQ5.out rfl rfl).mono ?_)
      rintro e w7 ⟨aZ0, cZ0, aZ1, cZ1, rfl, hZ0, hZ1, hb⟩
      have c_C0_7 := cell_b (c_C0_6) hb
      have c_X0_7 := cell_b (c_X0_6) hb
      have r_c_7 := Lib.hid (rdb_b (r_c_6.out) hb)
      have r_X0_7 := Lib.hid (rdb_b (r_X0_6.out) hb)
      have r_X1_7 := Lib.hid (rdb_b (r_X1_6.out) hb)
      have T_7 := Lib.hid (below_trans (T_6.out) hb)
      have z_7 : w6.heap.size ≤ w7.heap.size := (by have := hb.size; (try simp at this); omega)
      have r_Z0_7 := Lib.hid (rdb_mono hZ0 (show w6.heap.size ≤ _ by first | omega | (simp; done) | (simp; omega)))
      have lr_Z0 := Lib.hid (rdb_lo r_Z0_7.out)
      have hr_Z0 := Lib.hid (rdb_hi r_Z0_7.out)
      have r_Z1_7 := Lib.hid (rdb_mono hZ1 (show w6.heap.size ≤ _ by first | omega | (simp; done) | (simp; omega)))
      have lr_Z1 := Lib.hid (rdb_lo r_Z1_7.out)
      have hr_Z1 := Lib.hid (rdb_hi r_Z1_7.out)
      have ac_C0_7 := fun o => cell_b (c_C0_7) (below_alloc _ o)
      have bc_C0_7 := fun o o1 => cell_b (ac_C0_7 o) (below_alloc _ o1)
      have ac_X0_7 := fun o => cell_b (c_X0_7) (below_alloc _ o)
      have bc_X0_7 := fun o o1 => cell_b (ac_X0_7 o) (below_alloc _ o1)
      clear hb c_C0_6 c_X0_6 r_c_6 r_X0_6 r_X1_6 T_6 ac_C0_6 bc_C0_6 ac_X0_6 bc_X0_6 hZ0 hZ1
      go_wp2_with fail
      go_region_held3 (fun w' => w'.cell? ⟨w1.heap.size, 0, none⟩ = some (.slice a1 xs.length c1)) (first | with_reducible exact cell_b (c_C0_7) (below_alloc _ _) | with_reducible exact cell_b (cell_b (c_C0_7) (below_alloc _ _)) (drew_below _) | with_reducible exact c_C0_8 | with_reducible exact c_C0_9 | with_reducible exact c_C0_10 | go_keep)
        (first | (go_at_call 18; (with_reducible refine (I_CondValid_q _  _ (xs)  (true) (rdb_rd (rdb_b (rdb_b (r_c_7.out) (below_alloc _ _)) (drew_below _))) (by first | omega | (simp; done) | (simp; omega)) HQ2.out).mono ?_); rintro e w8 ⟨rfl, hb⟩; have c_C0_8 := cell_b (cell_b (cell_b (c_C0_7) (below_alloc _ _)) (drew_below _)) hb; have c_X0_8 := cell_b (cell_b (cell_b (c_X0_7) (below_alloc _ _)) (drew_below _)) hb; have c_Z0_8 := cell_b (p := ⟨w7.heap.size, 0, none⟩) (v := .slice aZ0 (0) cZ0) (by simp) hb; have r_c_8 := Lib.hid (rdb_b (rdb_b (rdb_b (r_c_7.out) (below_alloc _ _)) (drew_below _)) hb); have r_X0_8 := Lib.hid (rdb_b (rdb_b (rdb_b (r_X0_7.out) (below_alloc _ _)) (drew_below _)) hb); have r_X1_8 := Lib.hid (rdb_b (rdb_b (rdb_b (r_X1_7.out) (below_alloc _ _)) (drew_below _)) hb); have r_Z0_8 := Lib.hid (rdb_b (rdb_b (rdb_b (r_Z0_7.out) (below_alloc _ _)) (drew_below _)) hb); have r_Z1_8 := Lib.hid (rdb_b (rdb_b (rdb_b (r_Z1_7.out) (below_alloc _ _)) (drew_below _)) hb); have T_8 := Lib.hid (below_trans (below_trans (below_trans (T_7.out) (below_alloc _ _)) (drew_below _)) hb); have z_8 : w7.heap.size + 1 ≤ w8.heap.size := (by have := hb.size; (try simp at this); omega); have ac_C0_8 := fun o => cell_b (c_C0_8) (below_alloc _ o); have bc_C0_8 := fun o o1 => cell_b (ac_C0_8 o) (below_alloc _ o1); have ac_X0_8 := fun o => cell_b (c_X0_8) (below_alloc _ o); have bc_X0_8 := fun o o1 => cell_b (ac_X0_8 o) (below_alloc _ o1); have ac_Z0_8 := fun o => cell_b (c_Z0_8) (below_alloc _ o); have bc_Z0_8 := fun o o1 => cell_b (ac_Z0_8 o) (below_alloc _ o1); clear hb c_C0_7 c_X0_7 r_c_7 r_X0_7 r_X1_7 r_Z0_7 r_Z1_7 T_7 ac_C0_7 bc_C0_7 ac_X0_7 bc_X0_7) | (go_at_call 19; (with_reducible refine (S_CondValid_q _  _ (xs)  (true) (rdb_rd (r_c_8.out)) (by first | omega | (simp; done) | (simp; omega)) HQ2.out).mono ?_); rintro e w9 ⟨rfl, hb⟩; have c_C0_9 := cell_b (c_C0_8) hb; have c_X0_9 := cell_b (c_X0_8) hb; have c_Z0_9 := cell_b (c_Z0_8) hb; have r_c_9 := Lib.hid (rdb_b (r_c_8.out) hb); have r_X0_9 := Lib.hid (rdb_b (r_X0_8.out) hb); have r_X1_9 := Lib.hid (rdb_b (r_X1_8.out) hb); have r_Z0_9 := Lib.hid (rdb_b (r_Z0_8.out) hb); have r_Z1_9 := Lib.hid (rdb_b (r_Z1_8.out) hb); have T_9 := Lib.hid (below_trans (T_8.out) hb); have z_9 : w8.heap.size ≤ w9.heap.size := (by have := hb.size; (try simp at this); omega); have ac_C0_9 := fun o => cell_b (c_C0_9) (below_alloc _ o); have bc_C0_9 := fun o o1 => cell_b (ac_C0_9 o) (below_alloc _ o1); have ac_X0_9 := fun o => cell_b (c_X0_9) (below_alloc _ o); have bc_X0_9 := fun o o1 => cell_b (ac_X0_9 o) (below_alloc _ o1); have ac_Z0_9 := fun o => cell_b (c_Z0_9) (below_alloc _ o); have bc_Z0_9 := fun o o1 => cell_b (ac_Z0_9 o) (below_alloc _ o1); clear hb c_C0_8 c_X0_8 c_Z0_8 r_c_8 r_X0_8 r_X1_8 r_Z0_8 r_Z1_8 T_8 ac_C0_8 bc_C0_8 ac_X0_8 bc_X0_8 ac_Z0_8 bc_Z0_8) | (go_at_call 24; (with_reducible refine (eqB_true (drew_b (L_wkInts _ _ _ (xs) (xs) (rdb_rd (r_X1_9.out)) (rdb_rd (r_c_9.out)) (by first | omega | (simp; done) | (simp; omega)) (by first | omega | (simp; done) | (simp; omega))))).mono ?_); rintro e w10 ⟨rfl, hb⟩; have c_C0_10 := cell_b (c_C0_9) hb; have c_X0_10 := cell_b (c_X0_9) hb; have c_Z0_10 := cell_b (c_Z0_9) hb; have r_c_10 := Lib.hid (rdb_b (r_c_9.out) hb); have r_X0_10 := Lib.hid (rdb_b (r_X0_9.out) hb); have r_X1_10 := Lib.hid (rdb_b (r_X1_9.out) hb); have r_Z0_10 := Lib.hid (rdb_b (r_Z0_9.out) hb); have r_Z1_10 := Lib.hid (rdb_b (r_Z1_9.out) hb); have T_10 := Lib.hid (below_trans (T_9.out) hb); have z_10 : w9.heap.size ≤ w10.heap.size := (by have := hb.size; (try simp at this); omega); have ac_C0_10 := fun o => cell_b (c_C0_10) (below_alloc _ o); have bc_C0_10 := fun o o1 => cell_b (ac_C0_10 o) (below_alloc _ o1); have ac_X0_10 := fun o => cell_b (c_X0_10) (below_alloc _ o); have bc_X0_10 := fun o o1 => cell_b (ac_X0_10 o) (below_alloc _ o1); have ac_Z0_10 := fun o => cell_b (c_Z0_10) (below_alloc _ o); have bc_Z0_10 := fun o o1 => cell_b (ac_Z0_10 o) (below_alloc _ o1); clear hb c_C0_9 c_X0_9 c_Z0_9 r_c_9 r_X0_9 r_X1_9 r_Z0_9 r_Z1_9 T_9 ac_C0_9 bc_C0_9 ac_X0_9 bc_X0_9 ac_Z0_9 bc_Z0_9))
      go_wp2_with fail
      go_ret
      exact ⟨rfl, (T_10.out)⟩
    · have HV1 : Hid (vt xs = false) := Lib.hid (by simpa using hv1)
      clear hv1
      have HQ1 : Hid (okL (vt xs) xs = ([] : List Int)) := Lib.hid (by simp [HV1.out, okL])
      have HQ2 : Hid (vt xs = false) := Lib.hid (HV1.out)
      go_wp2_with fail
      (with_reducible refine (I_TellAll_q _  _ (xs)  (([] : List Int)) (([] : List Int)) (false) (0) (0) (rdb_rd (rdb_b (r_c_1.out) (below_alloc _ _))) (by first | omega | (simp; done) | (simp; omega)) rfl HQ1.out HQ2.out rfl rfl).mono ?_)
      rintro e w2 ⟨aX0, cX0, aX1, cX1, rfl, hX0, hX1, hb⟩
      have c_C0_2 := cell_b (p := ⟨w1.heap.size, 0, none⟩) (v := .slice a1 xs.length c1) (by simp) hb
      have r_c_2 := Lib.hid (rdb_b (rdb_b (r_c_1.out) (below_alloc _ _)) hb)
      have T_2 := Lib.hid (below_trans (below_trans (T_1.out) (below_alloc _ _)) hb)
      have z_2 : w1.heap.size + 1 ≤ w2.heap.size := (by have := hb.size; (try simp at this); omega)
      have r_X0_2 := Lib.hid (rdb_mono hX0 (show w1.heap.size + 1 ≤ _ by first | omega | (simp; done) | (simp; omega)))
      have lr_X0 := Lib.hid (rdb_lo r_X0_2.out)
      have hr_X0 := Lib.hid (rdb_hi r_X0_2.out)
      have r_X1_2 := Lib.hid (rdb_mono hX1 (show w1.heap.size + 1 ≤ _ by first | omega | (simp; done) | (simp; omega)))
      have lr_X1 := Lib.hid (rdb_lo r_X1_2.out)
      have hr_X1 := Lib.hid (rdb_hi r_X1_2.out)
      have ac_C0_2 := fun o => cell_b (c_C0_2) (below_alloc _ o)
      have bc_C0_2 := fun o o1 => cell_b (ac_C0_2 o) (below_alloc _ o1)
      clear hb r_c_1 T_1 hX0 hX1
      go_wp2_with fail
      (with_reducible refine (S_TellAll_q _  _ (xs)  (([] : List Int)) (([] : List Int)) (false) (0) (0) (rdb_rd (rdb_b (r_c_2.out) (below_alloc _ _))) (by first | omega | (simp; done) | (simp; omega)) rfl HQ1.out HQ2.out rfl rfl).mono ?_)
      rintro e w3 ⟨aY0, cY0, aY1, cY1, rfl, hY0, hY1, hb⟩
      have c_C0_3 := cell_b (cell_b (c_C0_2) (below_alloc _ _)) hb
      have c_X0_3 := cell_b (p := ⟨w2.heap.size, 0, none⟩) (v := .slice aX0 (0) cX0) (by simp) hb
      have r_c_3 := Lib.hid (rdb_b (rdb_b (r_c_2.out) (below_alloc _ _)) hb)
      have r_X0_3 := Lib.hid (rdb_b (rdb_b (r_X0_2.out) (below_alloc _ _)) hb)
      have r_X1_3 := Lib.hid (rdb_b (rdb_b (r_X1_2.out) (below_alloc _ _)) hb)
      have T_3 := Lib.hid (below_trans (below_trans (T_2.out) (below_alloc _ _)) hb)
      have z_3 : w2.heap.size + 1 ≤ w3.heap.size := (by have := hb.size; (try simp at this); omega)
      have r_Y0_3 := Lib.hid (rdb_mono hY0 (show w2.heap.size + 1 ≤ _ by first | omega | (simp; done) | (simp; omega)))
      have lr_Y0 := Lib.hid (rdb_lo r_Y0_3.out)
      have hr_Y0 := Lib.hid (rdb_hi r_Y0_3.out)
      have r_Y1_3 := Lib.hid (rdb_mono hY1 (show w2.heap.size + 1 ≤ _ by first | omega | (simp; done) | (simp; omega)))
      have lr_Y1 := Lib.hid (rdb_lo r_Y1_3.out)
      have hr_Y1 := Lib.hid (rdb_hi r_Y1_3.out)
      have ac_C0_3 := fun o => cell_b (c_C0_3) (below_alloc _ o)
      have bc_C0_3 := fun o o1 => cell_b (ac_C0_3 o) (below_alloc _ o1)
      have ac_X0_3 := fun o => cell_b (c_X0_3) (below_alloc _ o)
      have bc_X0_3 := fun o o1 => cell_b (ac_X0_3 o) (below_alloc _ o1)
      clear hb c_C0_2 r_c_2 r_X0_2 r_X1_2 T_2 ac_C0_2 bc_C0_2 hY0 hY1
      go_wp2_with fail
      (with_reducible refine (eqB_true (drew_b (L_wkInts _ _ _ (([] : List Int)) (([] : List Int)) (rdb_rd (rdb_b (r_X0_3.out) (below_alloc _ _))) (rdb_rd (rdb_b (r_Y0_3.out) (below_alloc _ _))) (by first | omega | (simp; done) | (simp; omega)) (by first | omega | (simp; done) | (simp; omega))))).mono ?_)
      rintro e w4 ⟨rfl, hb⟩
      have c_C0_4 := cell_b (cell_b (c_C0_3) (below_alloc _ _)) hb
      have c_X0_4 := cell_b (cell_b (c_X0_3) (below_alloc _ _)) hb
      have c_Y0_4 := cell_b (p := ⟨w3.heap.size, 0, none⟩) (v := .slice aY0 (0) cY0) (by simp) hb
      have r_c_4 := Lib.hid (rdb_b (rdb_b (r_c_3.out) (below_alloc _ _)) hb)
      have r_X0_4 := Lib.hid (rdb_b (rdb_b (r_X0_3.out) (below_alloc _ _)) hb)
      have r_X1_4 := Lib.hid (rdb_b (rdb_b (r_X1_3.out) (below_alloc _ _)) hb)
      have r_Y0_4 := Lib.hid (rdb_b (rdb_b (r_Y0_3.out) (below_alloc _ _)) hb)
      have r_Y1_4 := Lib.hid (rdb_b (rdb_b (r_Y1_3.out) (below_alloc _ _)) hb)
      have T_4 := Lib.hid (below_trans (below_trans (T_3.out) (below_alloc _ _)) hb)
      have z_4 : w3.heap.size + 1 ≤ w4.heap.size := (by have := hb.size; (try simp at this); omega)
      have ac_C0_4 := fun o => cell_b (c_C0_4) (below_alloc _ o)
      have bc_C0_4 := fun o o1 => cell_b (ac_C0_4 o) (below_alloc _ o1)
      have ac_X0_4 := fun o => cell_b (c_X0_4) (below_alloc _ o)
      have bc_X0_4 := fun o o1 => cell_b (ac_X0_4 o) (below_alloc _ o1)
      have ac_Y0_4 := fun o => cell_b (c_Y0_4) (below_alloc _ o)
      have bc_Y0_4 := fun o o1 => cell_b (ac_Y0_4 o) (below_alloc _ o1)
      clear hb c_C0_3 c_X0_3 r_c_3 r_X0_3 r_X1_3 r_Y0_3 r_Y1_3 T_3 ac_C0_3 bc_C0_3 ac_X0_3 bc_X0_3
      go_wp2_with fail
      (with_reducible refine (eqB_true (drew_b (L_wkInts _ _ _ (([] : List Int)) (([] : List Int)) (rdb_rd (r_X1_4.out)) (rdb_rd (r_Y1_4.out)) (by first | omega | (simp; done) | (simp; omega)) (by first | omega | (simp; done) | (simp; omega))))).mono ?_)
      rintro e w5 ⟨rfl, hb⟩
      have c_C0_5 := cell_b (c_C0_4) hb
      have c_X0_5 := cell_b (c_X0_4) hb
      have c_Y0_5 := cell_b (c_Y0_4) hb
      have r_c_5 := Lib.hid (rdb_b (r_c_4.out) hb)
      have r_X0_5 := Lib.hid (rdb_b (r_X0_4.out) hb)
      have r_X1_5 := Lib.hid (rdb_b (r_X1_4.out) hb)
      have r_Y0_5 := Lib.hid (rdb_b (r_Y0_4.out) hb)
      have r_Y1_5 := Lib.hid (rdb_b (r_Y1_4.out) hb)
      have T_5 := Lib.hid (below_trans (T_4.out) hb)
      have z_5 : w4.heap.size ≤ w5.heap.size := (by have := hb.size; (try simp at this); omega)
      have ac_C0_5 := fun o => cell_b (c_C0_5) (below_alloc _ o)
      have bc_C0_5 := fun o o1 => cell_b (ac_C0_5 o) (below_alloc _ o1)
      have ac_X0_5 := fun o => cell_b (c_X0_5) (below_alloc _ o)
      have bc_X0_5 := fun o o1 => cell_b (ac_X0_5 o) (below_alloc _ o1)
      have ac_Y0_5 := fun o => cell_b (c_Y0_5) (below_alloc _ o)
      have bc_Y0_5 := fun o o1 => cell_b (ac_Y0_5 o) (below_alloc _ o1)
      clear hb c_C0_4 c_X0_4 c_Y0_4 r_c_4 r_X0_4 r_X1_4 r_Y0_4 r_Y1_4 T_4 ac_C0_4 bc_C0_4 ac_X0_4 bc_X0_4 ac_Y0_4 bc_Y0_4
      go_wp2_with fail
      (with_reducible refine (I_CondValid_q _  _ (xs)  (false) (rdb_rd (r_c_5.out)) (by first | omega | (simp; done) | (simp; omega)) HQ2.out).mono ?_)
      rintro e w6 ⟨rfl, hb⟩
      have c_C0_6 := cell_b (c_C0_5) hb
      have c_X0_6 := cell_b (c_X0_5) hb
      have c_Y0_6 := cell_b (c_Y0_5) hb
      have r_c_6 := Lib.hid (rdb_b (r_c_5.out) hb)
      have r_X0_6 := Lib.hid (rdb_b (r_X0_5.out) hb)
      have r_X1_6 := Lib.hid (rdb_b (r_X1_5.out) hb)
      have r_Y0_6 := Lib.hid (rdb_b (r_Y0_5.out) hb)
      have r_Y1_6 := Lib.hid (rdb_b (r_Y1_5.out) hb)
      have T_6 := Lib.hid (below_trans (T_5.out) hb)
      have z_6 : w5.heap.size ≤ w6.heap.size := (by have := hb.size; (try simp at this); omega)
      have ac_C0_6 := fun o => cell_b (c_C0_6) (below_alloc _ o)
      have bc_C0_6 := fun o o1 => cell_b (ac_C0_6 o) (below_alloc _ o1)
      have ac_X0_6 := fun o => cell_b (c_X0_6) (below_alloc _ o)
      have bc_X0_6 := fun o o1 => cell_b (ac_X0_6 o) (below_alloc _ o1)
      have ac_Y0_6 := fun o => cell_b (c_Y0_6) (below_alloc _ o)
      have bc_Y0_6 := fun o o1 => cell_b (ac_Y0_6 o) (below_alloc _ o1)
      clear hb c_C0_5 c_X0_5 c_Y0_5 r_c_5 r_X0_5 r_X1_5 r_Y0_5 r_Y1_5 T_5 ac_C0_5 bc_C0_5 ac_X0_5 bc_X0_5 ac_Y0_5 bc_Y0_5
      go_wp2_with fail
      (with_reducible refine (eqB_true (drew_b (L_wkInts _ _ _ (([] : List Int)) (([] : List Int)) (rdb_rd (r_X0_6.out)) (rdb_rd (r_Y0_6.out)) (by first | omega | (simp; done) | (simp; omega)) (by first | omega | (simp; done) | (simp; omega))))).mono ?_)
      rintro e w7 ⟨rfl, hb⟩
      have c_C0_7 := cell_b (c_C0_6) hb
      have c_X0_7 := cell_b (c_X0_6) hb
      have c_Y0_7 := cell_b (c_Y0_6) hb
      have r_c_7 := Lib.hid (rdb_b (r_c_6.out) hb)
      have r_X0_7 := Lib.hid (rdb_b (r_X0_6.out) hb)
      have r_X1_7 := Lib.hid (rdb_b (r_X1_6.out) hb)
      have r_Y0_7 := Lib.hid (rdb_b (r_Y0_6.out) hb)
      have r_Y1_7 := Lib.hid (rdb_b (r_Y1_6.out) hb)
      have T_7 := Lib.hid (below_trans (T_6.out) hb)
      have z_7 : w6.heap.size ≤ w7.heap.size := (by have := hb.size; (try simp at this); omega)
      have ac_C0_7 := fun o => cell_b (c_C0_7) (below_alloc _ o)
      have bc_C0_7 := fun o o1 => cell_b (ac_C0_7 o) (below_alloc _ o1)
      have ac_X0_7 := fun o => cell_b (c_X0_7) (below_alloc _ o)
      have bc_X0_7 := fun o o1 => cell_b (ac_X0_7 o) (below_alloc _ o1)
      have ac_Y0_7 := fun o => cell_b (c_Y0_7) (below_alloc _ o)
      have bc_Y0_7 := fun o o1 => cell_b (ac_Y0_7 o) (below_alloc _ o1)
      clear hb c_C0_6 c_X0_6 c_Y0_6 r_c_6 r_X0_6 r_X1_6 r_Y0_6 r_Y1_6 T_6 ac_C0_6 bc_C0_6 ac_X0_6 bc_X0_6 ac_Y0_6 bc_Y0_6
      go_wp2_with fail
      (with_reducible refine (eqB_true (drew_b (L_wkInts _ _ _ (([] : List Int)) (([] : List Int)) (rdb_rd (r_X1_7.out)) (rdb_rd (r_Y1_7.out)) (by first | omega | (simp; done) | (simp; omega)) (by first | omega | (simp; done) | (simp; omega))))).mono ?_)
      rintro e w8 ⟨rfl, hb⟩
      have c_C0_8 := cell_b (c_C0_7) hb
      have c_X0_8 := cell_b (c_X0_7) hb
      have c_Y0_8 := cell_b (c_Y0_7) hb
      have r_c_8 := Lib.hid (rdb_b (r_c_7.out) hb)
      have r_X0_8 := Lib.hid (rdb_b (r_X0_7.out) hb)
      have r_X1_8 := Lib.hid (rdb_b (r_X1_7.out) hb)
      have r_Y0_8 := Lib.hid (rdb_b (r_Y0_7.out) hb)
      have r_Y1_8 := Lib.hid (rdb_b (r_Y1_7.out) hb)
      have T_8 := Lib.hid (below_trans (T_7.out) hb)
      have z_8 : w7.heap.size ≤ w8.heap.size := (by have := hb.size; (try simp at this); omega)
      have ac_C0_8 := fun o => cell_b (c_C0_8) (below_alloc _ o)
      have bc_C0_8 := fun o o1 => cell_b (ac_C0_8 o) (below_alloc _ o1)
      have ac_X0_8 := fun o => cell_b (c_X0_8) (below_alloc _ o)
      have bc_X0_8 := fun o o1 => cell_b (ac_X0_8 o) (below_alloc _ o1)
      have ac_Y0_8 := fun o => cell_b (c_Y0_8) (below_alloc _ o)
      have bc_Y0_8 := fun o o1 => cell_b (ac_Y0_8 o) (below_alloc _ o1)
      clear hb c_C0_7 c_X0_7 c_Y0_7 r_c_7 r_X0_7 r_X1_7 r_Y0_7 r_Y1_7 T_7 ac_C0_7 bc_C0_7 ac_X0_7 bc_X0_7 ac_Y0_7 bc_Y0_7
      go_wp2_with fail
      (with_reducible refine (I_CondValid_q _  _ (xs)  (false) (rdb_rd (r_c_8.out)) (by first | omega | (simp; done) | (simp; omega)) HQ2.out).mono ?_)
      rintro e w9 ⟨rfl, hb⟩
      have c_C0_9 := cell_b (c_C0_8) hb
      have c_X0_9 := cell_b (c_X0_8) hb
      have c_Y0_9 := cell_b (c_Y0_8) hb
      have r_c_9 := Lib.hid (rdb_b (r_c_8.out) hb)
      have r_X0_9 := Lib.hid (rdb_b (r_X0_8.out) hb)
      have r_X1_9 := Lib.hid (rdb_b (r_X1_8.out) hb)
      have r_Y0_9 := Lib.hid (rdb_b (r_Y0_8.out) hb)
      have r_Y1_9 := Lib.hid (rdb_b (r_Y1_8.out) hb)
      have T_9 := Lib.hid (below_trans (T_8.out) hb)
      have z_9 : w8.heap.size ≤ w9.heap.size := (by have := hb.size; (try simp at this); omega)
      have ac_C0_9 := fun o => cell_b (c_C0_9) (below_alloc _ o)
      have bc_C0_9 := fun o o1 => cell_b (ac_C0_9 o) (below_alloc _ o1)
      have ac_X0_9 := fun o => cell_b (c_X0_9) (below_alloc _ o)
      have bc_X0_9 := fun o o1 => cell_b (ac_X0_9 o) (below_alloc _ o1)
      have ac_Y0_9 := fun o => cell_b (c_Y0_9) (below_alloc _ o)
      have bc_Y0_9 := fun o o1 => cell_b (ac_Y0_9 o) (below_alloc _ o1)
      clear hb c_C0_8 c_X0_8 c_Y0_8 r_c_8 r_X0_8 r_X1_8 r_Y0_8 r_Y1_8 T_8 ac_C0_8 bc_C0_8 ac_X0_8 bc_X0_8 ac_Y0_8 bc_Y0_8
      go_wp2_with fail
      go_ret
      exact ⟨rfl, (T_9.out)⟩
end Go.Proofs.Ytkglngcopflgeaa
