/- The law FnTellOne: the walk. -/
import Derived.Test.YtkglngcopflgeaaDrawCond
import Derived.Test.YtkglngcopflgeaaQuickCond
import Derived.Test.YtkglngcopflgeaaPlainCond
import Derived.Test.YtkglngcopflgeaaGuard
import Derived.Deep.RegionHeld3
import Derived.Deep.DrawnRows
namespace Go.Proofs.Ytkglngcopflgeaa
open Go.RowKit
attribute [local go_sem ↓] Go.wp_at_zero Go.wp_at_succ
set_option maxHeartbeats 4000000 in
set_option maxRecDepth 100000 in
theorem W_FnTellOne (w : World) (v : Value) (n : Nat) (hv : RdY w v n) (hm : n ≤ 9223372036854775807) :
    Calls Try.prog 7 #[v] w fun e w' => e = .returned (.bool true) ∧ Below w.heap.size w w' := by
  have HV := Lib.hid hv
  obtain ⟨a, cap, rfl, hcap, hnc, hr⟩ := hv
  clear hr hnc
  by_cases hbig : 1048576 < n
  · go_enter Try.func7, Try.ntmps7
    go_wp2
    go_ret
    exact ⟨rfl, Below.refl _ _⟩
  · obtain ⟨i0, hi, hz0, hz1, hz2⟩ := info_parts info3
    go_enter Try.func7, Try.ntmps7
    have T_0 : Hid (Below w.heap.size w w) := Lib.hid (Below.refl _ _)
    skip
    go_wp2_with fail
    (with_reducible refine (S_DrawTellOne _ _ n HV.out (by omega)).mono ?_)
    rintro e w1 ⟨xs, a1, c1, rfl, hx, hd, hb⟩
    have T_1 := Lib.hid (below_trans (T_0.out) hb)
    have z_1 : w.heap.size ≤ w1.heap.size := (by have := hb.size; (try simp at this); omega)
    have r_c_1 := Lib.hid (rdb_mono hd (show w.heap.size ≤ _ by first | omega | (simp; done) | (simp; omega)))
    have lr_c := Lib.hid (rdb_lo r_c_1.out)
    have hr_c := Lib.hid (rdb_hi r_c_1.out)
    clear hb T_0 hd
    by_cases hv1 : vt xs = true
    · obtain ⟨H, T, e1, e2, e3, hH1, e4⟩ := tell_split hv1
      have E1 := Lib.hid e1
      have E2 := Lib.hid e2
      have E3 := Lib.hid e3
      have E4 := Lib.hid e4
      have E5 : Hid (H.length + T.length = xs.length) := Lib.hid (by rw [← e3]; simp)
      have hl2 : H.length + T.length ≤ 5 := by have := E5.out; omega
      clear e1 e2 e3 e4
      have HV1 : Hid (vt xs = true) := Lib.hid (by simpa using hv1)
      clear hv1
      have HQ1 : Hid (okL (vt xs) xs.tail = T) := Lib.hid (by simp [HV1.out, okL, E2.out])
      have HQ2 : Hid (okL (vt xs) (xs.take 1) = H) := Lib.hid (by simp [HV1.out, okL, E1.out])
      have HQ3 : Hid (vt xs = true) := Lib.hid (HV1.out)
      go_wp2_with fail
      (with_reducible refine (I_TellOne_q _  _ (xs)  (T) (H) (true) ((T).length) ((H).length) (rdb_rd (rdb_b (r_c_1.out) (below_alloc _ _))) (by first | omega | (simp; done) | (simp; omega)) HQ1.out HQ2.out HQ3.out rfl rfl).mono ?_)
      rintro e w2 ⟨aX0, cX0, aX1, cX1, rfl, hX0, hX1, hb⟩
      have c_C0_2 := cell_b (p := ⟨w1.heap.size, 0, none⟩) (v := .slice a1 xs.length c1) (by simp) hb
      have r_c_2 := Lib.hid (rdb_b (rdb_b (r_c_1.out) (below_alloc _ _)) hb)
      have T_2 := Lib.hid (below_trans (below_trans (T_1.out) (below_alloc _ _)) hb)
      have z_2 : w1.heap.size + 1 ≤ w2.heap.size := (by have := hb.size; (try simp at this); omega)
      have r_X0_2 := Lib.hid (rdb_mono hX0 (show w1.heap.size + 1 ≤ _ by first | omega | (simp; done) | (simp; omega)))
      have lr_X0 := Lib.hid (rdb_lo r_X0_2.out)
      have hr_X0 := Lib.hid (rdb_hi r_X0_2.out)
      have r_X1_2 := Lib.hid (rdb_mono hX1 (show w1.heap.size + 1 ≤ _ by first | omega | (simp; done) | (simp; omega)))
      have lr_X1 := Lib.hid (rdb_lo r_X1_2.out)
      have hr_X1 := Lib.hid (rdb_hi r_X1_2.out)
      have ac_C0_2 := fun o => cell_b (c_C0_2) (below_alloc _ o)
      have bc_C0_2 := fun o o1 => cell_b (ac_C0_2 o) (below_alloc _ o1)
      clear hb r_c_1 T_1 hX0 hX1
      go_wp2_with fail
      (with_reducible refine (S_TellOne_q _  _ (xs)  (T) (H) (true) ((T).length) ((H).length) (rdb_rd (rdb_b (r_c_2.out) (below_alloc _ _))) (by first | omega | (simp; done) | (simp; omega)) HQ1.out HQ2.out HQ3.out rfl rfl).mono ?_)
      rintro e w3 ⟨aY0, cY0, aY1, cY1, rfl, hY0, hY1, hb⟩
      have c_C0_3 := cell_b (cell_b (c_C0_2) (below_alloc _ _)) hb
      have c_X0_3 := cell_b (p := ⟨w2.heap.size, 0, none⟩) (v := .slice aX0 ((T).length) cX0) (by simp) hb
      have r_c_3 := Lib.hid (rdb_b (rdb_b (r_c_2.out) (below_alloc _ _)) hb)
      have r_X0_3 := Lib.hid (rdb_b (rdb_b (r_X0_2.out) (below_alloc _ _)) hb)
      have r_X1_3 := Lib.hid (rdb_b (rdb_b (r_X1_2.out) (below_alloc _ _)) hb)
      have T_3 := Lib.hid (below_trans (below_trans (T_2.out) (below_alloc _ _)) hb)
      have z_3 : w2.heap.size + 1 ≤ w3.heap.size := (by have := hb.size; (try simp at this); omega)
      have r_Y0_3 := Lib.hid (rdb_mono hY0 (show w2.heap.size + 1 ≤ _ by first | omega | (simp; done) | (simp; omega)))
      have lr_Y0 := Lib.hid (rdb_lo r_Y0_3.out)
      have hr_Y0 := Lib.hid (rdb_hi r_Y0_3.out)
      have r_Y1_3 := Lib.hid (rdb_mono hY1 (show w2.heap.size + 1 ≤ _ by first | omega | (simp; done) | (simp; omega)))
      have lr_Y1 := Lib.hid (rdb_lo r_Y1_3.out)
      have hr_Y1 := Lib.hid (rdb_hi r_Y1_3.out)
      have ac_C0_3 := fun o => cell_b (c_C0_3) (below_alloc _ o)
      have bc_C0_3 := fun o o1 => cell_b (ac_C0_3 o) (below_alloc _ o1)
      have ac_X0_3 := fun o => cell_b (c_X0_3) (below_alloc _ o)
      have bc_X0_3 := fun o o1 => cell_b (ac_X0_3 o) (below_alloc _ o1)
      clear hb c_C0_2 r_c_2 r_X0_2 r_X1_2 T_2 ac_C0_2 bc_C0_2 hY0 hY1
      go_wp2_with fail
      (with_reducible refine (eqB_true (drew_b (L_wkInts _ _ _ (T) (T) (rdb_rd (rdb_b (r_X0_3.out) (below_alloc _ _))) (rdb_rd (rdb_b (r_Y0_3.out) (below_alloc _ _))) (by first | omega | (simp; done) | (simp; omega)) (by first | omega | (simp; done) | (simp; omega))))).mono ?_)
      rintro e w4 ⟨rfl, hb⟩
      have c_C0_4 := cell_b (cell_b (c_C0_3) (below_alloc _ _)) hb
      have c_X0_4 := cell_b (cell_b (c_X0_3) (below_alloc _ _)) hb
      have c_Y0_4 := cell_b (p := ⟨w3.heap.size, 0, none⟩) (v := .slice aY0 ((T).length) cY0) (by simp) hb
      have r_c_4 := Lib.hid (rdb_b (rdb_b (r_c_3.out) (below_alloc _ _)) hb)
      have r_X0_4 := Lib.hid (rdb_b (rdb_b (r_X0_3.out) (below_alloc _ _)) hb)
      have r_X1_4 := Lib.hid (rdb_b (rdb_b (r_X1_3.out) (below_alloc _ _)) hb)
      have r_Y0_4 := Lib.hid (rdb_b (rdb_b (r_Y0_3.out) (below_alloc _ _)) hb)
      have r_Y1_4 := Lib.hid (rdb_b (rdb_b (r_Y1_3.out) (below_alloc _ _)) hb)
      have T_4 := Lib.hid (below_trans (below_trans (T_3.out) (below_alloc _ _)) hb)
      have z_4 : w3.heap.size + 1 ≤ w4.heap.size := (by have := hb.size; (try simp at this); omega)
      have ac_C0_4 := fun o => cell_b (c_C0_4) (below_alloc _ o)
      have bc_C0_4 := fun o o1 => cell_b (ac_C0_4 o) (below_alloc _ o1)
      have ac_X0_4 := fun o => cell_b (c_X0_4) (below_alloc _ o)
      have bc_X0_4 := fun o o1 => cell_b (ac_X0_4 o) (below_alloc _ o1)
      have ac_Y0_4 := fun o => cell_b (c_Y0_4) (below_alloc _ o)
      have bc_Y0_4 := fun o o1 => cell_b (ac_Y0_4 o) (below_alloc _ o1)
      clear hb c_C0_3 c_X0_3 r_c_3 r_X0_3 r_X1_3 r_Y0_3 r_Y1_3 T_3 ac_C0_3 bc_C0_3 ac_X0_3 bc_X0_3
      go_wp2_with fail
      (with_reducible refine (eqB_true (drew_b (L_wkInts _ _ _ (H) (H) (rdb_rd (r_X1_4.out)) (rdb_rd (r_Y1_4.out)) (by first | omega | (simp; done) | (simp; omega)) (by first | omega | (simp; done) | (simp; omega))))).mono ?_)
      rintro e w5 ⟨rfl, hb⟩
      have c_C0_5 := cell_b (c_C0_4) hb
      have c_X0_5 := cell_b (c_X0_4) hb
      have c_Y0_5 := cell_b (c_Y0_4) hb
      have r_c_5 := Lib.hid (rdb_b (r_c_4.out) hb)
      have r_X0_5 := Lib.hid (rdb_b (r_X0_4.out) hb)
      have r_X1_5 := Lib.hid (rdb_b (r_X1_4.out) hb)
      have r_Y0_5 := Lib.hid (rdb_b (r_Y0_4.out) hb)
      have r_Y1_5 := Lib.hid (rdb_b (r_Y1_4.out) hb)
      have T_5 := Lib.hid (below_trans (T_4.out) hb)
      have z_5 : w4.heap.size ≤ w5.heap.size := (by have := hb.size; (try simp at this); omega)
      have ac_C0_5 := fun o => cell_b (c_C0_5) (below_alloc _ o)
      have bc_C0_5 := fun o o1 => cell_b (ac_C0_5 o) (below_alloc _ o1)
      have ac_X0_5 := fun o => cell_b (c_X0_5) (below_alloc _ o)
      have bc_X0_5 := fun o o1 => cell_b (ac_X0_5 o) (below_alloc _ o1)
      have ac_Y0_5 := fun o => cell_b (c_Y0_5) (below_alloc _ o)
      have bc_Y0_5 := fun o o1 => cell_b (ac_Y0_5 o) (below_alloc _ o1)
      clear hb c_C0_4 c_X0_4 c_Y0_4 r_c_4 r_X0_4 r_X1_4 r_Y0_4 r_Y1_4 T_4 ac_C0_4 bc_C0_4 ac_X0_4 bc_X0_4 ac_Y0_4 bc_Y0_4
      clear r_Y0_5 lr_Y0 hr_Y0 r_Y1_5 lr_Y1 hr_Y1 c_Y0_5 ac_Y0_5 bc_Y0_5
      have HQ4 : Hid (okL (vt xs) xs = xs) := Lib.hid (by simp [HV1.out, okL])
      have HQ5 : Hid (okL (vt T) T = T) := Lib.hid (by simp [E4.out, okL])
      go_wp2_with fail
      (with_reducible refine (I_TellAll_q _  _ (xs)  (([] : List Int)) (xs) (true) (0) ((xs).length) (rdb_rd (r_c_5.out)) (by first | omega | (simp; done) | (simp; omega)) rfl HQ4.out HQ3.out rfl rfl).mono ?_)
      rintro e w6 ⟨aZ0, cZ0, aZ1, cZ1, rfl, hZ0, hZ1, hb⟩
      have c_C0_6 := cell_b (c_C0_5) hb
      have c_X0_6 := cell_b (c_X0_5) hb
      have r_c_6 := Lib.hid (rdb_b (r_c_5.out) hb)
      have r_X0_6 := Lib.hid (rdb_b (r_X0_5.out) hb)
      have r_X1_6 := Lib.hid (rdb_b (r_X1_5.out) hb)
      have T_6 := Lib.hid (below_trans (T_5.out) hb)
      have z_6 : w5.heap.size ≤ w6.heap.size := (by have := hb.size; (try simp at this); omega)
      have r_Z0_6 := Lib.hid (rdb_mono hZ0 (show w5.heap.size ≤ _ by first | omega | (simp; done) | (simp; omega)))
      have lr_Z0 := Lib.hid (rdb_lo r_Z0_6.out)
      have hr_Z0 := Lib.hid (rdb_hi r_Z0_6.out)
      have r_Z1_6 := Lib.hid (rdb_mono hZ1 (show w5.heap.size ≤ _ by first | omega | (simp; done) | (simp; omega)))
      have lr_Z1 := Lib.hid (rdb_lo r_Z1_6.out)
      have hr_Z1 := Lib.hid (rdb_hi r_Z1_6.out)
      have ac_C0_6 := fun o => cell_b (c_C0_6) (below_alloc _ o)
      have bc_C0_6 := fun o o1 => cell_b (ac_C0_6 o) (below_alloc _ o1)
      have ac_X0_6 := fun o => cell_b (c_X0_6) (below_alloc _ o)
      have bc_X0_6 := fun o o1 => cell_b (ac_X0_6 o) (below_alloc _ o1)
      clear hb c_C0_5 c_X0_5 r_c_5 r_X0_5 r_X1_5 T_5 ac_C0_5 bc_C0_5 ac_X0_5 bc_X0_5 hZ0 hZ1
      go_wp2_with fail
      (with_reducible refine (I_TellAll_q _  _ (T)  (([] : List Int)) (T) (true) (0) ((T).length) (rdb_rd (rdb_b (r_X0_6.out) (below_alloc _ _))) (by first | omega | (simp; done) | (simp; omega)) rfl HQ5.out E4.out rfl rfl).mono ?_)
      rintro e w7 ⟨aV0, cV0, aV1, cV1, rfl, hV0, hV1, hb⟩
      have c_C0_7 := cell_b (cell_b (c_C0_6) (below_alloc _ _)) hb
      have c_X0_7 := cell_b (cell_b (c_X0_6) (below_alloc _ _)) hb
      have c_Z0_7 := cell_b (p := ⟨w6.heap.size, 0, none⟩) (v := .slice aZ0 (0) cZ0) (by simp) hb
      have r_c_7 := Lib.hid (rdb_b (rdb_b (r_c_6.out) (below_alloc _ _)) hb)
      have r_X0_7 := Lib.hid (rdb_b (rdb_b (r_X0_6.out) (below_alloc _ _)) hb)
      have r_X1_7 := Lib.hid (rdb_b (rdb_b (r_X1_6.out) (below_alloc _ _)) hb)
      have r_Z0_7 := Lib.hid (rdb_b (rdb_b (r_Z0_6.out) (below_alloc _ _)) hb)
      have r_Z1_7 := Lib.hid (rdb_b (rdb_b (r_Z1_6.out) (below_alloc _ _)) hb)
      have T_7 := Lib.hid (below_trans (below_trans (T_6.out) (below_alloc _ _)) hb)
      have z_7 : w6.heap.size + 1 ≤ w7.heap.size := (by have := hb.size; (try simp at this); omega)
      have r_V0_7 := Lib.hid (rdb_mono hV0 (show w6.heap.size + 1 ≤ _ by first | omega | (simp; done) | (simp; omega)))
      have lr_V0 := Lib.hid (rdb_lo r_V0_7.out)
      have hr_V0 := Lib.hid (rdb_hi r_V0_7.out)
      have r_V1_7 := Lib.hid (rdb_mono hV1 (show w6.heap.size + 1 ≤ _ by first | omega | (simp; done) | (simp; omega)))
      have lr_V1 := Lib.hid (rdb_lo r_V1_7.out)
      have hr_V1 := Lib.hid (rdb_hi r_V1_7.out)
      have ac_C0_7 := fun o => cell_b (c_C0_7) (below_alloc _ o)
      have bc_C0_7 := fun o o1 => cell_b (ac_C0_7 o) (below_alloc _ o1)
      have ac_X0_7 := fun o => cell_b (c_X0_7) (below_alloc _ o)
      have bc_X0_7 := fun o o1 => cell_b (ac_X0_7 o) (below_alloc _ o1)
      have ac_Z0_7 := fun o => cell_b (c_Z0_7) (below_alloc _ o)
      have bc_Z0_7 := fun o o1 => cell_b (ac_Z0_7 o) (below_alloc _ o1)
      clear hb c_C0_6 c_X0_6 r_c_6 r_X0_6 r_X1_6 r_Z0_6 r_Z1_6 T_6 ac_C0_6 bc_C0_6 ac_X0_6 bc_X0_6 hV0 hV1
      clear r_Z0_7 lr_Z0 hr_Z0 r_V0_7 lr_V0 hr_V0
      go_wp2_with fail
      (with_reducible refine (I_CondValid_q _  _ (T)  (true) (rdb_rd (rdb_b (r_X0_7.out) (below_alloc _ _))) (by first | omega | (simp; done) | (simp; omega)) E4.out).mono ?_)
      rintro e w8 ⟨rfl, hb⟩
      have c_C0_8 := cell_b (cell_b (c_C0_7) (below_alloc _ _)) hb
      have c_X0_8 := cell_b (cell_b (c_X0_7) (below_alloc _ _)) hb
      have c_Z0_8 := cell_b (cell_b (c_Z0_7) (below_alloc _ _)) hb
      have c_V0_8 := cell_b (p := ⟨w7.heap.size, 0, none⟩) (v := .slice aV0 (0) cV0) (by simp) hb
      have r_c_8 := Lib.hid (rdb_b (rdb_b (r_c_7.out) (below_alloc _ _)) hb)
      have r_X0_8 := Lib.hid (rdb_b (rdb_b (r_X0_7.out) (below_alloc _ _)) hb)
      have r_X1_8 := Lib.hid (rdb_b (rdb_b (r_X1_7.out) (below_alloc _ _)) hb)
      have r_Z1_8 := Lib.hid (rdb_b (rdb_b (r_Z1_7.out) (below_alloc _ _)) hb)
      have r_V1_8 := Lib.hid (rdb_b (rdb_b (r_V1_7.out) (below_alloc _ _)) hb)
      have T_8 := Lib.hid (below_trans (below_trans (T_7.out) (below_alloc _ _)) hb)
      have z_8 : w7.heap.size + 1 ≤ w8.heap.size := (by have := hb.size; (try simp at this); omega)
      have ac_C0_8 := fun o => cell_b (c_C0_8) (below_alloc _ o)
      have bc_C0_8 := fun o o1 => cell_b (ac_C0_8 o) (below_alloc _ o1)
      have ac_X0_8 := fun o => cell_b (c_X0_8) (below_alloc _ o)
      have bc_X0_8 := fun o o1 => cell_b (ac_X0_8 o) (below_alloc _ o1)
      have ac_Z0_8 := fun o => cell_b (c_Z0_8) (below_alloc _ o)
      have bc_Z0_8 := fun o o1 => cell_b (ac_Z0_8 o) (below_alloc _ o1)
      have ac_V0_8 := fun o => cell_b (c_V0_8) (below_alloc _ o)
      have bc_V0_8 := fun o o1 => cell_b (ac_V0_8 o) (below_alloc _ o1)
      clear hb c_C0_7 c_X0_7 c_Z0_7 r_c_7 r_X0_7 r_X1_7 r_Z1_7 r_V1_7 T_7 ac_C0_7 bc_C0_7 ac_X0_7 bc_X0_7 ac_Z0_7 bc_Z0_7
      clear c_Z0_8 ac_Z0_8 bc_Z0_8 c_V0_8 ac_V0_8 bc_V0_8 c_X0_8 ac_X0_8 bc_X0_8 c_C0_8 ac_C0_8 bc_C0_8
      have tok10 : True := trivial
      have tok9 : True := trivial
      go_wp2_with (first | (at_builtin; have _t := tok9; refine wpList_append_rd_w (by rfl) _ _ 24 rfl (w8.heap.size) i0 Try.underlying24 hi hz0 hz1 hz2 (.slice (some ⟨w8.heap.size, 0, none⟩) 0 0) (0) ([]) rfl (World.ownsRow_made _ #[] 0 (by first | rfl | simp) (by unfold maxLen; omega) rfl) _ _ _ (H) rfl (rdb_rd (rdb_b (r_X1_8.out) (below_alloc _ _))) rfl (by unfold maxLen; omega) (by omega) (by first | omega | (simp; done) | (simp; omega)) ?_; intro v9 w9 hown hgr hloc; clear tok9; have ho : w9.ownsRow (w8.heap.size) 3 1 v9 ((H).length) (ints (H)) := (by rw [Nat.zero_add, List.nil_append] at hown; exact hown); obtain ⟨a2, c2, hv⟩ := own_shape ho; subst hv; have r_c_9 := Lib.hid (rdb_gr (rdb_b (r_c_8.out) (below_alloc _ _)) hgr (fun g g' h h' => by simp only [Value.ownBlock, Option.some.injEq] at h; have h3 := lr_c.out g' h'; have h4 := hr_c.out g' h'; omega)); have r_X0_9 := Lib.hid (rdb_gr (rdb_b (r_X0_8.out) (below_alloc _ _)) hgr (fun g g' h h' => by simp only [Value.ownBlock, Option.some.injEq] at h; have h3 := lr_X0.out g' h'; have h4 := hr_X0.out g' h'; omega)); have r_X1_9 := Lib.hid (rdb_gr (rdb_b (r_X1_8.out) (below_alloc _ _)) hgr (fun g g' h h' => by simp only [Value.ownBlock, Option.some.injEq] at h; have h3 := lr_X1.out g' h'; have h4 := hr_X1.out g' h'; omega)); have r_Z1_9 := Lib.hid (rdb_gr (rdb_b (r_Z1_8.out) (below_alloc _ _)) hgr (fun g g' h h' => by simp only [Value.ownBlock, Option.some.injEq] at h; have h3 := lr_Z1.out g' h'; have h4 := hr_Z1.out g' h'; omega)); have r_V1_9 := Lib.hid (rdb_gr (rdb_b (r_V1_8.out) (below_alloc _ _)) hgr (fun g g' h h' => by simp only [Value.ownBlock, Option.some.injEq] at h; have h3 := lr_V1.out g' h'; have h4 := hr_V1.out g' h'; omega)); have T_9 := Lib.hid (below_gr (below_trans (T_8.out) (below_alloc _ _)) (by first | omega | (simp; done) | (simp; omega)) hgr (fun g h => by simp only [Value.ownBlock, Option.some.injEq] at h; omega)); have z_9 : w8.heap.size + 1 ≤ w9.heap.size := (by have := hgr.size; (try simp at this); omega); have o_e_9 := Lib.hid ho; have lo_e := Lib.hid (own_lo o_e_9.out); have hi_e := Lib.hid (own_hi o_e_9.out); clear hgr r_c_8 r_X0_8 r_X1_8 r_Z1_8 r_V1_8 T_8 hown ho hloc) | (at_builtin; have _t := tok10; refine wpList_append_rd_w (by rfl) _ _ 24 rfl (w8.heap.size) i0 Try.underlying24 hi hz0 hz1 hz2 (.slice a2 ((H).length) c2) (((H).length)) (H) rfl (o_e_9.out) _ _ _ (T) rfl (rdb_rd (r_V1_9.out)) rfl (by unfold maxLen; omega) (by omega) (by first | omega | (simp; done) | (simp; omega)) ?_; intro v10 w10 hown hgr hloc; clear tok10; have ho : w10.ownsRow (w8.heap.size) 3 1 v10 (((H).length) + (T).length) (ints (H ++ T)) := (by exact hown); obtain ⟨a3, c3, hv⟩ := own_shape ho; subst hv; have iv_f : Hid (∀ g, (Value.slice a3 (((H).length) + (T).length) c3).ownBlock = some g → (w8.heap.size ≤ g ∧ g < w9.heap.size) ∨ (w9.heap.size ≤ g ∧ g < w10.heap.size)) := Lib.hid (fun g h => by have h9 := hgr.size; have h7 := own_hi ho g h; rcases hloc with h8 | h8 <;> rw [h8] at h <;> first | (have h1 := lo_e.out g h; have h2 := hi_e.out g h; (try simp at h9); omega) | (injection h with h; (try simp at h9); (try simp at h); omega)); have r_c_10 := Lib.hid (rdb_gr (r_c_9.out) hgr (fun g g' h h' => by have h1 := lo_e.out g h; have h2 := hi_e.out g h; have h3 := lr_c.out g' h'; have h4 := hr_c.out g' h'; omega)); have r_X0_10 := Lib.hid (rdb_gr (r_X0_9.out) hgr (fun g g' h h' => by have h1 := lo_e.out g h; have h2 := hi_e.out g h; have h3 := lr_X0.out g' h'; have h4 := hr_X0.out g' h'; omega)); have r_X1_10 := Lib.hid (rdb_gr (r_X1_9.out) hgr (fun g g' h h' => by have h1 := lo_e.out g h; have h2 := hi_e.out g h; have h3 := lr_X1.out g' h'; have h4 := hr_X1.out g' h'; omega)); have r_Z1_10 := Lib.hid (rdb_gr (r_Z1_9.out) hgr (fun g g' h h' => by have h1 := lo_e.out g h; have h2 := hi_e.out g h; have h3 := lr_Z1.out g' h'; have h4 := hr_Z1.out g' h'; omega)); have r_V1_10 := Lib.hid (rdb_gr (r_V1_9.out) hgr (fun g g' h h' => by have h1 := lo_e.out g h; have h2 := hi_e.out g h; have h3 := lr_V1.out g' h'; have h4 := hr_V1.out g' h'; omega)); have T_10 := Lib.hid (below_gr (T_9.out) (by first | omega | (simp; done) | (simp; omega)) hgr (fun g h => by have h1 := lo_e.out g h; have h2 := hi_e.out g h; omega)); have z_10 : w9.heap.size ≤ w10.heap.size := (by have := hgr.size; (try simp at this); omega); have ho := ow_eq ho E3.out E5.out; have o_f_10 := Lib.hid ho; have lo_f := Lib.hid (own_lo o_f_10.out); have hi_f := Lib.hid (own_hi o_f_10.out); clear hgr r_c_9 r_X0_9 r_X1_9 r_Z1_9 r_V1_9 T_9 hown ho hloc o_e_9 lo_e hi_e))
      go_wp2_with fail
      (with_reducible refine (eqB_true (drew_b (L_wkInts _ _ _ (xs) (xs) (rdb_rd (r_Z1_10.out)) (own_rd (o_f_10.out)) (by first | omega | (simp; done) | (simp; omega)) (by first | omega | (simp; done) | (simp; omega))))).mono ?_)
      rintro e w11 ⟨rfl, hb⟩
      have o_f_11 := Lib.hid (own_below (o_f_10.out) hb)
      have r_c_11 := Lib.hid (rdb_b (r_c_10.out) hb)
      have r_X0_11 := Lib.hid (rdb_b (r_X0_10.out) hb)
      have r_X1_11 := Lib.hid (rdb_b (r_X1_10.out) hb)
      have r_Z1_11 := Lib.hid (rdb_b (r_Z1_10.out) hb)
      have r_V1_11 := Lib.hid (rdb_b (r_V1_10.out) hb)
      have T_11 := Lib.hid (below_trans (T_10.out) hb)
      have z_11 : w10.heap.size ≤ w11.heap.size := (by have := hb.size; (try simp at this); omega)
      clear hb o_f_10 r_c_10 r_X0_10 r_X1_10 r_Z1_10 r_V1_10 T_10
      have hd1 : decide ((H.length : Int) ≤ 1) = true := by simp; omega
      go_wp2_with fail
      go_ret
      exact ⟨rfl, (T_11.out)⟩
    · have HV1 : Hid (vt xs = false) := Lib.hid (by simpa using hv1)
      clear hv1
      have HQ1 : Hid (okL (vt xs) xs.tail = ([] : List Int)) := Lib.hid (by simp [HV1.out, okL])
      have HQ2 : Hid (okL (vt xs) (xs.take 1) = ([] : List Int)) := Lib.hid (by simp [HV1.out, okL])
      have HQ3 : Hid (vt xs = false) := Lib.hid (HV1.out)
      go_wp2_with fail
      (with_reducible refine (I_TellOne_q _  _ (xs)  (([] : List Int)) (([] : List Int)) (false) (0) (0) (rdb_rd (rdb_b (r_c_1.out) (below_alloc _ _))) (by first | omega | (simp; done) | (simp; omega)) HQ1.out HQ2.out HQ3.out rfl rfl).mono ?_)
      rintro e w2 ⟨aX0, cX0, aX1, cX1, rfl, hX0, hX1, hb⟩
      have c_C0_2 := cell_b (p := ⟨w1.heap.size, 0, none⟩) (v := .slice a1 xs.length c1) (by simp) hb
      have r_c_2 := Lib.hid (rdb_b (rdb_b (r_c_1.out) (below_alloc _ _)) hb)
      have T_2 := Lib.hid (below_trans (below_trans (T_1.out) (below_alloc _ _)) hb)
      have z_2 : w1.heap.size + 1 ≤ w2.heap.size := (by have := hb.size; (try simp at this); omega)
      have r_X0_2 := Lib.hid (rdb_mono hX0 (show w1.heap.size + 1 ≤ _ by first | omega | (simp; done) | (simp; omega)))
      have lr_X0 := Lib.hid (rdb_lo r_X0_2.out)
      have hr_X0 := Lib.hid (rdb_hi r_X0_2.out)
      have r_X1_2 := Lib.hid (rdb_mono hX1 (show w1.heap.size + 1 ≤ _ by first | omega | (simp; done) | (simp; omega)))
      have lr_X1 := Lib.hid (rdb_lo r_X1_2.out)
      have hr_X1 := Lib.hid (rdb_hi r_X1_2.out)
      have ac_C0_2 := fun o => cell_b (c_C0_2) (below_alloc _ o)
      have bc_C0_2 := fun o o1 => cell_b (ac_C0_2 o) (below_alloc _ o1)
      clear hb r_c_1 T_1 hX0 hX1
      go_wp2_with fail
      (with_reducible refine (S_TellOne_q _  _ (xs)  (([] : List Int)) (([] : List Int)) (false) (0) (0) (rdb_rd (rdb_b (r_c_2.out) (below_alloc _ _))) (by first | omega | (simp; done) | (simp; omega)) HQ1.out HQ2.out HQ3.out rfl rfl).mono ?_)
      rintro e w3 ⟨aY0, cY0, aY1, cY1, rfl, hY0, hY1, hb⟩
      have c_C0_3 := cell_b (cell_b (c_C0_2) (below_alloc _ _)) hb
      have c_X0_3 := cell_b (p := ⟨w2.heap.size, 0, none⟩) (v := .slice aX0 (0) cX0) (by simp) hb
      have r_c_3 := Lib.hid (rdb_b (rdb_b (r_c_2.out) (below_alloc _ _)) hb)
      have r_X0_3 := Lib.hid (rdb_b (rdb_b (r_X0_2.out) (below_alloc _ _)) hb)
      have r_X1_3 := Lib.hid (rdb_b (rdb_b (r_X1_2.out) (below_alloc _ _)) hb)
      have T_3 := Lib.hid (below_trans (below_trans (T_2.out) (below_alloc _ _)) hb)
      have z_3 : w2.heap.size + 1 ≤ w3.heap.size := (by have := hb.size; (try simp at this); omega)
      have r_Y0_3 := Lib.hid (rdb_mono hY0 (show w2.heap.size + 1 ≤ _ by first | omega | (simp; done) | (simp; omega)))
      have lr_Y0 := Lib.hid (rdb_lo r_Y0_3.out)
      have hr_Y0 := Lib.hid (rdb_hi r_Y0_3.out)
      have r_Y1_3 := Lib.hid (rdb_mono hY1 (show w2.heap.size + 1 ≤ _ by first | omega | (simp; done) | (simp; omega)))
      have lr_Y1 := Lib.hid (rdb_lo r_Y1_3.out)
      have hr_Y1 := Lib.hid (rdb_hi r_Y1_3.out)
      have ac_C0_3 := fun o => cell_b (c_C0_3) (below_alloc _ o)
      have bc_C0_3 := fun o o1 => cell_b (ac_C0_3 o) (below_alloc _ o1)
      have ac_X0_3 := fun o => cell_b (c_X0_3) (below_alloc _ o)
      have bc_X0_3 := fun o o1 => cell_b (ac_X0_3 o) (below_alloc _ o1)
      clear hb c_C0_2 r_c_2 r_X0_2 r_X1_2 T_2 ac_C0_2 bc_C0_2 hY0 hY1
      go_wp2_with fail
      (with_reducible refine (eqB_true (drew_b (L_wkInts _ _ _ (([] : List Int)) (([] : List Int)) (rdb_rd (rdb_b (r_X0_3.out) (below_alloc _ _))) (rdb_rd (rdb_b (r_Y0_3.out) (below_alloc _ _))) (by first | omega | (simp; done) | (simp; omega)) (by first | omega | (simp; done) | (simp; omega))))).mono ?_)
      rintro e w4 ⟨rfl, hb⟩
      have c_C0_4 := cell_b (cell_b (c_C0_3) (below_alloc _ _)) hb
      have c_X0_4 := cell_b (cell_b (c_X0_3) (below_alloc _ _)) hb
      have c_Y0_4 := cell_b (p := ⟨w3.heap.size, 0, none⟩) (v := .slice aY0 (0) cY0) (by simp) hb
      have r_c_4 := Lib.hid (rdb_b (rdb_b (r_c_3.out) (below_alloc _ _)) hb)
      have r_X0_4 := Lib.hid (rdb_b (rdb_b (r_X0_3.out) (below_alloc _ _)) hb)
      have r_X1_4 := Lib.hid (rdb_b (rdb_b (r_X1_3.out) (below_alloc _ _)) hb)
      have r_Y0_4 := Lib.hid (rdb_b (rdb_b (r_Y0_3.out) (below_alloc _ _)) hb)
      have r_Y1_4 := Lib.hid (rdb_b (rdb_b (r_Y1_3.out) (below_alloc _ _)) hb)
      have T_4 := Lib.hid (below_trans (below_trans (T_3.out) (below_alloc _ _)) hb)
      have z_4 : w3.heap.size + 1 ≤ w4.heap.size := (by have := hb.size; (try simp at this); omega)
      have ac_C0_4 := fun o => cell_b (c_C0_4) (below_alloc _ o)
      have bc_C0_4 := fun o o1 => cell_b (ac_C0_4 o) (below_alloc _ o1)
      have ac_X0_4 := fun o => cell_b (c_X0_4) (below_alloc _ o)
      have bc_X0_4 := fun o o1 => cell_b (ac_X0_4 o) (below_alloc _ o1)
      have ac_Y0_4 := fun o => cell_b (c_Y0_4) (below_alloc _ o)
      have bc_Y0_4 := fun o o1 => cell_b (ac_Y0_4 o) (below_alloc _ o1)
      clear hb c_C0_3 c_X0_3 r_c_3 r_X0_3 r_X1_3 r_Y0_3 r_Y1_3 T_3 ac_C0_3 bc_C0_3 ac_X0_3 bc_X0_3
      go_wp2_with fail
      (with_reducible refine (eqB_true (drew_b (L_wkInts _ _ _ (([] : List Int)) (([] : List Int)) (rdb_rd (r_X1_4.out)) (rdb_rd (r_Y1_4.out)) (by first | omega | (simp; done) | (simp; omega)) (by first | omega | (simp; done) | (simp; omega))))).mono ?_)
      rintro e w5 ⟨rfl, hb⟩
      have c_C0_5 := cell_b (c_C0_4) hb
      have c_X0_5 := cell_b (c_X0_4) hb
      have c_Y0_5 := cell_b (c_Y0_4) hb
      have r_c_5 := Lib.hid (rdb_b (r_c_4.out) hb)
      have r_X0_5 := Lib.hid (rdb_b (r_X0_4.out) hb)
      have r_X1_5 := Lib.hid (rdb_b (r_X1_4.out) hb)
      have r_Y0_5 := Lib.hid (rdb_b (r_Y0_4.out) hb)
      have r_Y1_5 := Lib.hid (rdb_b (r_Y1_4.out) hb)
      have T_5 := Lib.hid (below_trans (T_4.out) hb)
      have z_5 : w4.heap.size ≤ w5.heap.size := (by have := hb.size; (try simp at this); omega)
      have ac_C0_5 := fun o => cell_b (c_C0_5) (below_alloc _ o)
      have bc_C0_5 := fun o o1 => cell_b (ac_C0_5 o) (below_alloc _ o1)
      have ac_X0_5 := fun o => cell_b (c_X0_5) (below_alloc _ o)
      have bc_X0_5 := fun o o1 => cell_b (ac_X0_5 o) (below_alloc _ o1)
      have ac_Y0_5 := fun o => cell_b (c_Y0_5) (below_alloc _ o)
      have bc_Y0_5 := fun o o1 => cell_b (ac_Y0_5 o) (below_alloc _ o1)
      clear hb c_C0_4 c_X0_4 c_Y0_4 r_c_4 r_X0_4 r_X1_4 r_Y0_4 r_Y1_4 T_4 ac_C0_4 bc_C0_4 ac_X0_4 bc_X0_4 ac_Y0_4 bc_Y0_4
      go_wp2_with fail
      (with_reducible refine (eqB_true (drew_b (L_wkInts _ _ _ (([] : List Int)) (([] : List Int)) (rdb_rd (r_X0_5.out)) (rdb_rd (r_Y0_5.out)) (by first | omega | (simp; done) | (simp; omega)) (by first | omega | (simp; done) | (simp; omega))))).mono ?_)
      rintro e w6 ⟨rfl, hb⟩
      have c_C0_6 := cell_b (c_C0_5) hb
      have c_X0_6 := cell_b (c_X0_5) hb
      have c_Y0_6 := cell_b (c_Y0_5) hb
      have r_c_6 := Lib.hid (rdb_b (r_c_5.out) hb)
      have r_X0_6 := Lib.hid (rdb_b (r_X0_5.out) hb)
      have r_X1_6 := Lib.hid (rdb_b (r_X1_5.out) hb)
      have r_Y0_6 := Lib.hid (rdb_b (r_Y0_5.out) hb)
      have r_Y1_6 := Lib.hid (rdb_b (r_Y1_5.out) hb)
      have T_6 := Lib.hid (below_trans (T_5.out) hb)
      have z_6 : w5.heap.size ≤ w6.heap.size := (by have := hb.size; (try simp at this); omega)
      have ac_C0_6 := fun o => cell_b (c_C0_6) (below_alloc _ o)
      have bc_C0_6 := fun o o1 => cell_b (ac_C0_6 o) (below_alloc _ o1)
      have ac_X0_6 := fun o => cell_b (c_X0_6) (below_alloc _ o)
      have bc_X0_6 := fun o o1 => cell_b (ac_X0_6 o) (below_alloc _ o1)
      have ac_Y0_6 := fun o => cell_b (c_Y0_6) (below_alloc _ o)
      have bc_Y0_6 := fun o o1 => cell_b (ac_Y0_6 o) (below_alloc _ o1)
      clear hb c_C0_5 c_X0_5 c_Y0_5 r_c_5 r_X0_5 r_X1_5 r_Y0_5 r_Y1_5 T_5 ac_C0_5 bc_C0_5 ac_X0_5 bc_X0_5 ac_Y0_5 bc_Y0_5
      go_wp2_with fail
      (with_reducible refine (eqB_true (drew_b (L_wkInts _ _ _ (([] : List Int)) (([] : List Int)) (rdb_rd (r_X1_6.out)) (rdb_rd (r_Y1_6.out)) (by first | omega | (simp; done) | (simp; omega)) (by first | omega | (simp; done) | (simp; omega))))).mono ?_)
      rintro e w7 ⟨rfl, hb⟩
      have c_C0_7 := cell_b (c_C0_6) hb
      have c_X0_7 := cell_b (c_X0_6) hb
      have c_Y0_7 := cell_b (c_Y0_6) hb
      have r_c_7 := Lib.hid (rdb_b (r_c_6.out) hb)
      have r_X0_7 := Lib.hid (rdb_b (r_X0_6.out) hb)
      have r_X1_7 := Lib.hid (rdb_b (r_X1_6.out) hb)
      have r_Y0_7 := Lib.hid (rdb_b (r_Y0_6.out) hb)
      have r_Y1_7 := Lib.hid (rdb_b (r_Y1_6.out) hb)
      have T_7 := Lib.hid (below_trans (T_6.out) hb)
      have z_7 : w6.heap.size ≤ w7.heap.size := (by have := hb.size; (try simp at this); omega)
      have ac_C0_7 := fun o => cell_b (c_C0_7) (below_alloc _ o)
      have bc_C0_7 := fun o o1 => cell_b (ac_C0_7 o) (below_alloc _ o1)
      have ac_X0_7 := fun o => cell_b (c_X0_7) (below_alloc _ o)
      have bc_X0_7 := fun o o1 => cell_b (ac_X0_7 o) (below_alloc _ o1)
      have ac_Y0_7 := fun o => cell_b (c_Y0_7) (below_alloc _ o)
      have bc_Y0_7 := fun o o1 => cell_b (ac_Y0_7 o) (below_alloc _ o1)
      clear hb c_C0_6 c_X0_6 c_Y0_6 r_c_6 r_X0_6 r_X1_6 r_Y0_6 r_Y1_6 T_6 ac_C0_6 bc_C0_6 ac_X0_6 bc_X0_6 ac_Y0_6 bc_Y0_6
      go_wp2_with fail
      go_ret
      exact ⟨rfl, (T_7.out)⟩
end Go.Proofs.Ytkglngcopflgeaa
