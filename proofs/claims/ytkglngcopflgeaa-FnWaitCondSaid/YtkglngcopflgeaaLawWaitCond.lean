/- The law FnWaitCond: the walk. -/
import Derived.Test.YtkglngcopflgeaaDrawCond
import Derived.Test.YtkglngcopflgeaaQuickCond
import Derived.Test.YtkglngcopflgeaaPlainCond
import Derived.Test.YtkglngcopflgeaaGuard
import Derived.Deep.RegionHeld3
import Derived.Deep.DrawnRows
namespace Go.Proofs.Ytkglngcopflgeaa
open Go.RowKit
attribute [local go_sem ↓] Go.wp_at_zero Go.wp_at_succ
set_option maxHeartbeats 4000000 in
set_option maxRecDepth 100000 in
theorem W_FnWaitCond (w : World) (v : Value) (n : Nat) (hv : RdY w v n) (hm : n ≤ 9223372036854775807) :
    Calls Try.prog 9 #[v] w fun e w' => e = .returned (.bool true) ∧ Below w.heap.size w w' := by
  have HV := Lib.hid hv
  obtain ⟨a, cap, rfl, hcap, hnc, hr⟩ := hv
  clear hr hnc
  by_cases hbig : 1048576 < n
  · go_enter Try.func9, Try.ntmps9
    go_wp2
    go_ret
    exact ⟨rfl, Below.refl _ _⟩
  · go_enter Try.func9, Try.ntmps9
    have T_0 : Hid (Below w.heap.size w w) := Lib.hid (Below.refl _ _)
    skip
    go_wp2_with fail
    (with_reducible refine (S_DrawWaitCond _ _ n HV.out (by omega)).mono ?_)
    rintro e w1 ⟨xs, t, a1, c1, rfl, hx, hd, hb⟩
    have T_1 := Lib.hid (below_trans (T_0.out) hb)
    have z_1 : w.heap.size ≤ w1.heap.size := (by have := hb.size; (try simp at this); omega)
    have r_c_1 := Lib.hid (rdb_mono hd (show w.heap.size ≤ _ by first | omega | (simp; done) | (simp; omega)))
    have lr_c := Lib.hid (rdb_lo r_c_1.out)
    have hr_c := Lib.hid (rdb_hi r_c_1.out)
    clear hb T_0 hd
    by_cases hv1 : waitOk xs t = true
    · have E0 := Lib.hid (vt_snoc hv1)
      have EN : Hid ((xs ++ [t]).length = xs.length + 1) := Lib.hid (by simp)
      have HV1 : Hid (waitOk xs t = true) := Lib.hid (by simpa using hv1)
      have HQ1 : Hid (waitL xs t = xs ++ [t]) := Lib.hid (by simp [waitL, HV1.out])
      have HQ2 : Hid (waitOk xs t = true) := Lib.hid (HV1.out)
      go_wp2_with fail
      (with_reducible refine (I_WaitCond_q _  _ (xs) (t) (xs ++ [t]) (true) (xs.length + 1) (rdb_rd (rdb_b (r_c_1.out) (below_alloc _ _))) (by first | omega | (simp; done) | (simp; omega)) HQ1.out HQ2.out EN.out).mono ?_)
      rintro e w2 ⟨aX0, cX0, rfl, hX0, hb⟩
      have c_C0_2 := cell_b (p := ⟨w1.heap.size, 0, none⟩) (v := .slice a1 xs.length c1) (by simp) hb
      have r_c_2 := Lib.hid (rdb_b (rdb_b (r_c_1.out) (below_alloc _ _)) hb)
      have T_2 := Lib.hid (below_trans (below_trans (T_1.out) (below_alloc _ _)) hb)
      have z_2 : w1.heap.size + 1 ≤ w2.heap.size := (by have := hb.size; (try simp at this); omega)
      have r_X0_2 := Lib.hid (rdb_mono hX0 (show w1.heap.size + 1 ≤ _ by first | omega | (simp; done) | (simp; omega)))
      have lr_X0 := Lib.hid (rdb_lo r_X0_2.out)
      have hr_X0 := Lib.hid (rdb_hi r_X0_2.out)
      have ac_C0_2 := fun o => cell_b (c_C0_2) (below_alloc _ o)
      have bc_C0_2 := fun o o1 => cell_b (ac_C0_2 o) (below_alloc _ o1)
      clear hb r_c_1 T_1 hX0
      go_wp2_with fail
      (with_reducible refine (S_WaitCond_q _  _ (xs) (t) (xs ++ [t]) (true) (xs.length + 1) (rdb_rd (rdb_b (r_c_2.out) (below_alloc _ _))) (by first | omega | (simp; done) | (simp; omega)) HQ1.out HQ2.out EN.out).mono ?_)
      rintro e w3 ⟨aY0, cY0, rfl, hY0, hb⟩
      have c_C0_3 := cell_b (cell_b (c_C0_2) (below_alloc _ _)) hb
      have c_X0_3 := cell_b (p := ⟨w2.heap.size, 0, none⟩) (v := .slice aX0 (xs.length + 1) cX0) (by simp) hb
      have r_c_3 := Lib.hid (rdb_b (rdb_b (r_c_2.out) (below_alloc _ _)) hb)
      have r_X0_3 := Lib.hid (rdb_b (rdb_b (r_X0_2.out) (below_alloc _ _)) hb)
      have T_3 := Lib.hid (below_trans (below_trans (T_2.out) (below_alloc _ _)) hb)
      have z_3 : w2.heap.size + 1 ≤ w3.heap.size := (by have := hb.size; (try simp at this); omega)
      have r_Y0_3 := Lib.hid (rdb_mono hY0 (show w2.heap.size + 1 ≤ _ by first | omega | (simp; done) | (simp; omega)))
      have lr_Y0 := Lib.hid (rdb_lo r_Y0_3.out)
      have hr_Y0 := Lib.hid (rdb_hi r_Y0_3.out)
      have ac_C0_3 := fun o => cell_b (c_C0_3) (below_alloc _ o)
      have bc_C0_3 := fun o o1 => cell_b (ac_C0_3 o) (below_alloc _ o1)
      have ac_X0_3 := fun o => cell_b (c_X0_3) (below_alloc _ o)
      have bc_X0_3 := fun o o1 => cell_b (ac_X0_3 o) (below_alloc _ o1)
      clear hb c_C0_2 r_c_2 r_X0_2 T_2 ac_C0_2 bc_C0_2 hY0
      go_wp2_with fail
      (with_reducible refine (eqB_true (drew_b (L_wkInts _ _ _ (xs ++ [t]) (xs ++ [t]) (rdb_rd (rdb_b (r_X0_3.out) (below_alloc _ _))) (rdb_rd (rdb_b (r_Y0_3.out) (below_alloc _ _))) (by first | omega | (simp; done) | (simp; omega)) (by first | omega | (simp; done) | (simp; omega))))).mono ?_)
      rintro e w4 ⟨rfl, hb⟩
      have c_C0_4 := cell_b (cell_b (c_C0_3) (below_alloc _ _)) hb
      have c_X0_4 := cell_b (cell_b (c_X0_3) (below_alloc _ _)) hb
      have c_Y0_4 := cell_b (p := ⟨w3.heap.size, 0, none⟩) (v := .slice aY0 (xs.length + 1) cY0) (by simp) hb
      have r_c_4 := Lib.hid (rdb_b (rdb_b (r_c_3.out) (below_alloc _ _)) hb)
      have r_X0_4 := Lib.hid (rdb_b (rdb_b (r_X0_3.out) (below_alloc _ _)) hb)
      have r_Y0_4 := Lib.hid (rdb_b (rdb_b (r_Y0_3.out) (below_alloc _ _)) hb)
      have T_4 := Lib.hid (below_trans (below_trans (T_3.out) (below_alloc _ _)) hb)
      have z_4 : w3.heap.size + 1 ≤ w4.heap.size := (by have := hb.size; (try simp at this); omega)
      have ac_C0_4 := fun o => cell_b (c_C0_4) (below_alloc _ o)
      have bc_C0_4 := fun o o1 => cell_b (ac_C0_4 o) (below_alloc _ o1)
      have ac_X0_4 := fun o => cell_b (c_X0_4) (below_alloc _ o)
      have bc_X0_4 := fun o o1 => cell_b (ac_X0_4 o) (below_alloc _ o1)
      have ac_Y0_4 := fun o => cell_b (c_Y0_4) (below_alloc _ o)
      have bc_Y0_4 := fun o o1 => cell_b (ac_Y0_4 o) (below_alloc _ o1)
      clear hb c_C0_3 c_X0_3 r_c_3 r_X0_3 r_Y0_3 T_3 ac_C0_3 bc_C0_3 ac_X0_3 bc_X0_3
      clear hv1
      clear r_Y0_4 lr_Y0 hr_Y0 c_Y0_4 ac_Y0_4 bc_Y0_4
      have HQ3 : Hid (okL (vt (xs ++ [t])) (xs ++ [t]) = xs ++ [t]) := Lib.hid (by simp [E0.out, okL])
      go_wp2_with fail
      (with_reducible refine (I_TellAll_q _  _ (xs ++ [t])  (([] : List Int)) (xs ++ [t]) (true) (0) (xs.length + 1) (rdb_rd (r_X0_4.out)) (by first | omega | (simp; done) | (simp; omega)) rfl HQ3.out E0.out rfl EN.out).mono ?_)
      rintro e w5 ⟨aZ0, cZ0, aZ1, cZ1, rfl, hZ0, hZ1, hb⟩
      have c_C0_5 := cell_b (c_C0_4) hb
      have c_X0_5 := cell_b (c_X0_4) hb
      have r_c_5 := Lib.hid (rdb_b (r_c_4.out) hb)
      have r_X0_5 := Lib.hid (rdb_b (r_X0_4.out) hb)
      have T_5 := Lib.hid (below_trans (T_4.out) hb)
      have z_5 : w4.heap.size ≤ w5.heap.size := (by have := hb.size; (try simp at this); omega)
      have r_Z0_5 := Lib.hid (rdb_mono hZ0 (show w4.heap.size ≤ _ by first | omega | (simp; done) | (simp; omega)))
      have lr_Z0 := Lib.hid (rdb_lo r_Z0_5.out)
      have hr_Z0 := Lib.hid (rdb_hi r_Z0_5.out)
      have r_Z1_5 := Lib.hid (rdb_mono hZ1 (show w4.heap.size ≤ _ by first | omega | (simp; done) | (simp; omega)))
      have lr_Z1 := Lib.hid (rdb_lo r_Z1_5.out)
      have hr_Z1 := Lib.hid (rdb_hi r_Z1_5.out)
      have ac_C0_5 := fun o => cell_b (c_C0_5) (below_alloc _ o)
      have bc_C0_5 := fun o o1 => cell_b (ac_C0_5 o) (below_alloc _ o1)
      have ac_X0_5 := fun o => cell_b (c_X0_5) (below_alloc _ o)
      have bc_X0_5 := fun o o1 => cell_b (ac_X0_5 o) (below_alloc _ o1)
      clear hb c_C0_4 c_X0_4 r_c_4 r_X0_4 T_4 ac_C0_4 bc_C0_4 ac_X0_4 bc_X0_4 hZ0 hZ1
      clear r_Z0_5 lr_Z0 hr_Z0
      obtain ⟨gz, oz, rfl, hcz, hcap9, hrz⟩ := rdb_last r_Z1_5.out
      have c_Q0_5 := hcz
      have r_W_5 := Lib.hid hrz
      have lr_W := Lib.hid (rdb_lo hrz)
      have hr_W := Lib.hid (rdb_hi hrz)
      clear hcz hrz
      have i1 : (0 : Int) ≤ (xs.length : Int) := by omega
      have i2 : (xs.length : Int) < (xs.length : Int) + 1 := by omega
      have i3 : (xs.length : Int) ≤ (cZ1 : Int) := by omega
      have y1 : IntKind.i64.wrap ((xs.length : Int) + 1 - 1) = (xs.length : Int) := by rw [IntWalk.i64_in _ (by omega)]; omega
      have y2 : IntKind.i64.wrap (xs.length : Int) = (xs.length : Int) := IntWalk.i64_in _ (by omega)
      go_wp2_with fail
      go_region_held3 (fun w' => w'.cell? ⟨w2.heap.size, 0, none⟩ = some (.slice aX0 (xs.length + 1) cX0) ∧ w'.cell? ⟨w5.heap.size, 0, none⟩ = some (.slice aZ0 (0) cZ0) ∧ w'.cell? ⟨w1.heap.size, 0, none⟩ = some (.slice a1 xs.length c1) ∧ w'.cell? ⟨gz, oz + xs.length, none⟩ = some (.int .i64 t)) (first | with_reducible exact ⟨cell_b (c_X0_5) (below_alloc _ _), (by simp), cell_b (c_C0_5) (below_alloc _ _), cell_b (c_Q0_5) (below_alloc _ _)⟩ | with_reducible exact ⟨cell_b (cell_b (c_X0_5) (below_alloc _ _)) (drew_below _), (by simp), cell_b (cell_b (c_C0_5) (below_alloc _ _)) (drew_below _), cell_b (cell_b (c_Q0_5) (below_alloc _ _)) (drew_below _)⟩ | with_reducible exact ⟨c_X0_6, c_Z0_6, c_C0_6, c_Q0_6⟩ | with_reducible exact ⟨c_X0_7, c_Z0_7, c_C0_7, c_Q0_7⟩ | go_keep)
        (first | (go_at_call 18; (with_reducible refine (I_CondValid_q _  _ (xs ++ [t])  (true) (rdb_rd (rdb_b (rdb_b (r_X0_5.out) (below_alloc _ _)) (drew_below _))) (by first | omega | (simp; done) | (simp; omega)) E0.out).mono ?_); rintro e w6 ⟨rfl, hb⟩; have c_C0_6 := cell_b (cell_b (cell_b (c_C0_5) (below_alloc _ _)) (drew_below _)) hb; have c_X0_6 := cell_b (cell_b (cell_b (c_X0_5) (below_alloc _ _)) (drew_below _)) hb; have c_Q0_6 := cell_b (cell_b (cell_b (c_Q0_5) (below_alloc _ _)) (drew_below _)) hb; have c_Z0_6 := cell_b (p := ⟨w5.heap.size, 0, none⟩) (v := .slice aZ0 (0) cZ0) (by simp) hb; have r_c_6 := Lib.hid (rdb_b (rdb_b (rdb_b (r_c_5.out) (below_alloc _ _)) (drew_below _)) hb); have r_X0_6 := Lib.hid (rdb_b (rdb_b (rdb_b (r_X0_5.out) (below_alloc _ _)) (drew_below _)) hb); have r_Z1_6 := Lib.hid (rdb_b (rdb_b (rdb_b (r_Z1_5.out) (below_alloc _ _)) (drew_below _)) hb); have r_W_6 := Lib.hid (rdb_b (rdb_b (rdb_b (r_W_5.out) (below_alloc _ _)) (drew_below _)) hb); have T_6 := Lib.hid (below_trans (below_trans (below_trans (T_5.out) (below_alloc _ _)) (drew_below _)) hb); have z_6 : w5.heap.size + 1 ≤ w6.heap.size := (by have := hb.size; (try simp at this); omega); have ac_C0_6 := fun o => cell_b (c_C0_6) (below_alloc _ o); have bc_C0_6 := fun o o1 => cell_b (ac_C0_6 o) (below_alloc _ o1); have ac_X0_6 := fun o => cell_b (c_X0_6) (below_alloc _ o); have bc_X0_6 := fun o o1 => cell_b (ac_X0_6 o) (below_alloc _ o1); have ac_Q0_6 := fun o => cell_b (c_Q0_6) (below_alloc _ o); have bc_Q0_6 := fun o o1 => cell_b (ac_Q0_6 o) (below_alloc _ o1); have ac_Z0_6 := fun o => cell_b (c_Z0_6) (below_alloc _ o); have bc_Z0_6 := fun o o1 => cell_b (ac_Z0_6 o) (below_alloc _ o1); clear hb c_C0_5 c_X0_5 c_Q0_5 r_c_5 r_X0_5 r_Z1_5 r_W_5 T_5 ac_C0_5 bc_C0_5 ac_X0_5 bc_X0_5) | (go_at_call 24; (with_reducible refine (eqB_true (drew_b (L_wkInts _ _ _ (xs) (xs) (rdb_rd (r_W_6.out)) (rdb_rd (r_c_6.out)) (by first | omega | (simp; done) | (simp; omega)) (by first | omega | (simp; done) | (simp; omega))))).mono ?_); rintro e w7 ⟨rfl, hb⟩; have c_C0_7 := cell_b (c_C0_6) hb; have c_X0_7 := cell_b (c_X0_6) hb; have c_Q0_7 := cell_b (c_Q0_6) hb; have c_Z0_7 := cell_b (c_Z0_6) hb; have r_c_7 := Lib.hid (rdb_b (r_c_6.out) hb); have r_X0_7 := Lib.hid (rdb_b (r_X0_6.out) hb); have r_Z1_7 := Lib.hid (rdb_b (r_Z1_6.out) hb); have r_W_7 := Lib.hid (rdb_b (r_W_6.out) hb); have T_7 := Lib.hid (below_trans (T_6.out) hb); have z_7 : w6.heap.size ≤ w7.heap.size := (by have := hb.size; (try simp at this); omega); have ac_C0_7 := fun o => cell_b (c_C0_7) (below_alloc _ o); have bc_C0_7 := fun o o1 => cell_b (ac_C0_7 o) (below_alloc _ o1); have ac_X0_7 := fun o => cell_b (c_X0_7) (below_alloc _ o); have bc_X0_7 := fun o o1 => cell_b (ac_X0_7 o) (below_alloc _ o1); have ac_Q0_7 := fun o => cell_b (c_Q0_7) (below_alloc _ o); have bc_Q0_7 := fun o o1 => cell_b (ac_Q0_7 o) (below_alloc _ o1); have ac_Z0_7 := fun o => cell_b (c_Z0_7) (below_alloc _ o); have bc_Z0_7 := fun o o1 => cell_b (ac_Z0_7 o) (below_alloc _ o1); clear hb c_C0_6 c_X0_6 c_Q0_6 c_Z0_6 r_c_6 r_X0_6 r_Z1_6 r_W_6 T_6 ac_C0_6 bc_C0_6 ac_X0_6 bc_X0_6 ac_Q0_6 bc_Q0_6 ac_Z0_6 bc_Z0_6))
      go_wp2_with fail
      go_ret
      exact ⟨rfl, (T_7.out)⟩
    · have HV1 : Hid (waitOk xs t = false) := Lib.hid (by simpa using hv1)
      have HQ1 : Hid (waitL xs t = ([] : List Int)) := Lib.hid (by simp [waitL, HV1.out])
      have HQ2 : Hid (waitOk xs t = false) := Lib.hid (HV1.out)
      go_wp2_with fail
      (with_reducible refine (I_WaitCond_q _  _ (xs) (t) (([] : List Int)) (false) (0) (rdb_rd (rdb_b (r_c_1.out) (below_alloc _ _))) (by first | omega | (simp; done) | (simp; omega)) HQ1.out HQ2.out rfl).mono ?_)
      rintro e w2 ⟨aX0, cX0, rfl, hX0, hb⟩
      have c_C0_2 := cell_b (p := ⟨w1.heap.size, 0, none⟩) (v := .slice a1 xs.length c1) (by simp) hb
      have r_c_2 := Lib.hid (rdb_b (rdb_b (r_c_1.out) (below_alloc _ _)) hb)
      have T_2 := Lib.hid (below_trans (below_trans (T_1.out) (below_alloc _ _)) hb)
      have z_2 : w1.heap.size + 1 ≤ w2.heap.size := (by have := hb.size; (try simp at this); omega)
      have r_X0_2 := Lib.hid (rdb_mono hX0 (show w1.heap.size + 1 ≤ _ by first | omega | (simp; done) | (simp; omega)))
      have lr_X0 := Lib.hid (rdb_lo r_X0_2.out)
      have hr_X0 := Lib.hid (rdb_hi r_X0_2.out)
      have ac_C0_2 := fun o => cell_b (c_C0_2) (below_alloc _ o)
      have bc_C0_2 := fun o o1 => cell_b (ac_C0_2 o) (below_alloc _ o1)
      clear hb r_c_1 T_1 hX0
      go_wp2_with fail
      (with_reducible refine (S_WaitCond_q _  _ (xs) (t) (([] : List Int)) (false) (0) (rdb_rd (rdb_b (r_c_2.out) (below_alloc _ _))) (by first | omega | (simp; done) | (simp; omega)) HQ1.out HQ2.out rfl).mono ?_)
      rintro e w3 ⟨aY0, cY0, rfl, hY0, hb⟩
      have c_C0_3 := cell_b (cell_b (c_C0_2) (below_alloc _ _)) hb
      have c_X0_3 := cell_b (p := ⟨w2.heap.size, 0, none⟩) (v := .slice aX0 (0) cX0) (by simp) hb
      have r_c_3 := Lib.hid (rdb_b (rdb_b (r_c_2.out) (below_alloc _ _)) hb)
      have r_X0_3 := Lib.hid (rdb_b (rdb_b (r_X0_2.out) (below_alloc _ _)) hb)
      have T_3 := Lib.hid (below_trans (below_trans (T_2.out) (below_alloc _ _)) hb)
      have z_3 : w2.heap.size + 1 ≤ w3.heap.size := (by have := hb.size; (try simp at this); omega)
      have r_Y0_3 := Lib.hid (rdb_mono hY0 (show w2.heap.size + 1 ≤ _ by first | omega | (simp; done) | (simp; omega)))
      have lr_Y0 := Lib.hid (rdb_lo r_Y0_3.out)
      have hr_Y0 := Lib.hid (rdb_hi r_Y0_3.out)
      have ac_C0_3 := fun o => cell_b (c_C0_3) (below_alloc _ o)
      have bc_C0_3 := fun o o1 => cell_b (ac_C0_3 o) (below_alloc _ o1)
      have ac_X0_3 := fun o => cell_b (c_X0_3) (below_alloc _ o)
      have bc_X0_3 := fun o o1 => cell_b (ac_X0_3 o) (below_alloc _ o1)
      clear hb c_C0_2 r_c_2 r_X0_2 T_2 ac_C0_2 bc_C0_2 hY0
      go_wp2_with fail
      (with_reducible refine (eqB_true (drew_b (L_wkInts _ _ _ (([] : List Int)) (([] : List Int)) (rdb_rd (rdb_b (r_X0_3.out) (below_alloc _ _))) (rdb_rd (rdb_b (r_Y0_3.out) (below_alloc _ _))) (by first | omega | (simp; done) | (simp; omega)) (by first | omega | (simp; done) | (simp; omega))))).mono ?_)
      rintro e w4 ⟨rfl, hb⟩
      have c_C0_4 := cell_b (cell_b (c_C0_3) (below_alloc _ _)) hb
      have c_X0_4 := cell_b (cell_b (c_X0_3) (below_alloc _ _)) hb
      have c_Y0_4 := cell_b (p := ⟨w3.heap.size, 0, none⟩) (v := .slice aY0 (0) cY0) (by simp) hb
      have r_c_4 := Lib.hid (rdb_b (rdb_b (r_c_3.out) (below_alloc _ _)) hb)
      have r_X0_4 := Lib.hid (rdb_b (rdb_b (r_X0_3.out) (below_alloc _ _)) hb)
      have r_Y0_4 := Lib.hid (rdb_b (rdb_b (r_Y0_3.out) (below_alloc _ _)) hb)
      have T_4 := Lib.hid (below_trans (below_trans (T_3.out) (below_alloc _ _)) hb)
      have z_4 : w3.heap.size + 1 ≤ w4.heap.size := (by have := hb.size; (try simp at this); omega)
      have ac_C0_4 := fun o => cell_b (c_C0_4) (below_alloc _ o)
      have bc_C0_4 := fun o o1 => cell_b (ac_C0_4 o) (below_alloc _ o1)
      have ac_X0_4 := fun o => cell_b (c_X0_4) (below_alloc _ o)
      have bc_X0_4 := fun o o1 => cell_b (ac_X0_4 o) (below_alloc _ o1)
      have ac_Y0_4 := fun o => cell_b (c_Y0_4) (below_alloc _ o)
      have bc_Y0_4 := fun o o1 => cell_b (ac_Y0_4 o) (below_alloc _ o1)
      clear hb c_C0_3 c_X0_3 r_c_3 r_X0_3 r_Y0_3 T_3 ac_C0_3 bc_C0_3 ac_X0_3 bc_X0_3
      go_wp2_with fail
      (with_reducible refine (eqB_true (drew_b (L_wkInts _ _ _ (([] : List Int)) (([] : List Int)) (rdb_rd (r_X0_4.out)) (rdb_rd (r_Y0_4.out)) (by first | omega | (simp; done) | (simp; omega)) (by first | omega | (simp; done) | (simp; omega))))).mono ?_)
      rintro e w5 ⟨rfl, hb⟩
      have c_C0_5 := cell_b (c_C0_4) hb
      have c_X0_5 := cell_b (c_X0_4) hb
      have c_Y0_5 := cell_b (c_Y0_4) hb
      have r_c_5 := Lib.hid (rdb_b (r_c_4.out) hb)
      have r_X0_5 := Lib.hid (rdb_b (r_X0_4.out) hb)
      have r_Y0_5 := Lib.hid (rdb_b (r_Y0_4.out) hb)
      have T_5 := Lib.hid (below_trans (T_4.out) hb)
      have z_5 : w4.heap.size ≤ w5.heap.size := (by have := hb.size; (try simp at this); omega)
      have ac_C0_5 := fun o => cell_b (c_C0_5) (below_alloc _ o)
      have bc_C0_5 := fun o o1 => cell_b (ac_C0_5 o) (below_alloc _ o1)
      have ac_X0_5 := fun o => cell_b (c_X0_5) (below_alloc _ o)
      have bc_X0_5 := fun o o1 => cell_b (ac_X0_5 o) (below_alloc _ o1)
      have ac_Y0_5 := fun o => cell_b (c_Y0_5) (below_alloc _ o)
      have bc_Y0_5 := fun o o1 => cell_b (ac_Y0_5 o) (below_alloc _ o1)
      clear hb c_C0_4 c_X0_4 c_Y0_4 r_c_4 r_X0_4 r_Y0_4 T_4 ac_C0_4 bc_C0_4 ac_X0_4 bc_X0_4 ac_Y0_4 bc_Y0_4
      go_wp2_with fail
      go_ret
      exact ⟨rfl, (T_5.out)⟩
end Go.Proofs.Ytkglngcopflgeaa
