/- The law FnLandFlight: the walk. -/
import Derived.Test.YtafpnkcdoeicgaaLandFn
import Derived.Deep.RegionHeld3
import Derived.Deep.DrawnRows
import Derived.Deep.RegionLaw
namespace Go.Proofs.Ytafpnkcdoeicgaa
open Go.RowKit
attribute [local go_sem ↓] Go.wp_at_zero Go.wp_at_succ
set_option maxHeartbeats 4000000 in
set_option maxRecDepth 100000 in
theorem W_FnLandFlight (w : World) (v : Value) (n : Nat) (hv : RdY w v n) (hm : n ≤ 9223372036854775807) :
    Calls Try.prog 7 #[v] w fun e w' => e = .returned (.bool true) ∧ Below w.heap.size w w' := by
  have HV := Lib.hid hv
  obtain ⟨a, cap, rfl, hcap, hnc, hr⟩ := hv
  clear hr hnc
  by_cases hbig : 1048576 < n
  · go_enter Try.func7, Try.ntmps7
    go_wp2
    go_ret
    exact ⟨rfl, Below.refl _ _⟩
  · go_enter Try.func7, Try.ntmps7
    have T_0 : Hid (Below w.heap.size w w) := Lib.hid (Below.refl _ _)
    go_wp2_with fail
    (with_reducible refine (S_DrawLandFlight _ _ n HV.out (by omega)).mono ?_)
    rintro e w1 ⟨X, key, t, a1, c1, rfl, hX, hx, hb⟩
    have T_1 := Lib.hid (below_trans (T_0.out) hb)
    have z_1 : w.heap.size ≤ w1.heap.size := (by have := hb.size; (try simp at this); omega)
    have r_x_1 := Lib.hid (rdf_mono hx (show w.heap.size ≤ _ by first | omega | (simp; done) | (simp; omega)) (Nat.le_refl _) (Nat.le_refl _))
    clear hb T_0 hx
    go_wp2_with fail
    (with_reducible refine (I_LandFlight_s _ _ _ _ X key t (r_x_1.out) (by omega)).mono ?_)
    rintro e w2 ⟨Rr, ar, cr, Lr, br, dr, kr, hjr, rfl, hr, hi, hb⟩
    have r_x_2 := Lib.hid (rdf_b (r_x_1.out) hb)
    have T_2 := Lib.hid (below_trans (T_1.out) hb)
    have z_2 : w1.heap.size ≤ w2.heap.size := (by have := hb.size; (try simp at this); omega)
    have r_r_2 := Lib.hid (rdf_mono hr (show w1.heap.size ≤ _ by first | omega | (simp; done) | (simp; omega)) (Nat.le_refl _) (Nat.le_refl _))
    have HJr := Lib.hid hjr
    have hzr : Rr.length + tsum Rr + Lr.length ≤ X.length + tsum X := (by have h := fland_sum hjr; simp only [List.length_map] at h; have h2 : fsum (Rr.map fl) = tsum Rr := rfl; have h3 : fsum (X.map fl) = tsum X := rfl; omega)
    clear hb r_x_1 T_1 hr hjr
    have r_rI_2 := Lib.hid hi
    clear hi
    go_wp2_with fail
    (with_reducible refine (S_LandFlight _ _ _ _ X key t (r_x_2.out) (by omega)).mono ?_)
    rintro e w3 ⟨Rv, av, cv, Lv, bv, dv, kv, hjv, rfl, hr, hi, hb⟩
    have r_x_3 := Lib.hid (rdf_b (r_x_2.out) hb)
    have r_r_3 := Lib.hid (rdf_b (r_r_2.out) hb)
    have r_rI_3 := Lib.hid (rdi_b (r_rI_2.out) hb)
    have T_3 := Lib.hid (below_trans (T_2.out) hb)
    have z_3 : w2.heap.size ≤ w3.heap.size := (by have := hb.size; (try simp at this); omega)
    have r_v_3 := Lib.hid (rdf_mono hr (show w2.heap.size ≤ _ by first | omega | (simp; done) | (simp; omega)) (Nat.le_refl _) (Nat.le_refl _))
    have HJv := Lib.hid hjv
    have hzv : Rv.length + tsum Rv + Lv.length ≤ X.length + tsum X := (by have h := fland_sum hjv; simp only [List.length_map] at h; have h2 : fsum (Rv.map fl) = tsum Rv := rfl; have h3 : fsum (X.map fl) = tsum X := rfl; omega)
    clear hb r_x_2 r_r_2 r_rI_2 T_2 hr hjv
    have r_vI_3 := Lib.hid hi
    clear hi
    have hq : (Rr.map fl, Lr, kr) = (Rv.map fl, Lv, kv) := by rw [← HJr.out, ← HJv.out]
    simp only [Prod.mk.injEq] at hq
    obtain ⟨hq, rfl, rfl⟩ := hq
    have HQ := Lib.hid hq
    clear hq
    go_wp2_with fail
    (with_reducible refine (I_FlightsSame_q _ _ _ _ _ _ _ Rr Rv (true) (r_r_3.out) (r_v_3.out) (by omega) (by omega) (by rw [HQ.out]; exact eqL_self _)).mono ?_)
    rintro e w4 ⟨rfl, hb⟩
    have r_x_4 := Lib.hid (rdf_b (r_x_3.out) hb)
    have r_r_4 := Lib.hid (rdf_b (r_r_3.out) hb)
    have r_rI_4 := Lib.hid (rdi_b (r_rI_3.out) hb)
    have r_v_4 := Lib.hid (rdf_b (r_v_3.out) hb)
    have r_vI_4 := Lib.hid (rdi_b (r_vI_3.out) hb)
    have T_4 := Lib.hid (below_trans (T_3.out) hb)
    have z_4 : w3.heap.size ≤ w4.heap.size := (by have := hb.size; (try simp at this); omega)
    clear hb r_x_3 r_r_3 r_rI_3 r_v_3 r_vI_3 T_3
    go_wp2_with fail
    (with_reducible refine (eqB_true (drew_b (L_wkInts _ _ _ Lr Lr (rdi_rd (r_rI_4.out)) (rdi_rd (r_vI_4.out)) (by omega) (by omega)))).mono ?_)
    rintro e w5 ⟨rfl, hb⟩
    have r_x_5 := Lib.hid (rdf_b (r_x_4.out) hb)
    have r_r_5 := Lib.hid (rdf_b (r_r_4.out) hb)
    have r_rI_5 := Lib.hid (rdi_b (r_rI_4.out) hb)
    have r_v_5 := Lib.hid (rdf_b (r_v_4.out) hb)
    have r_vI_5 := Lib.hid (rdi_b (r_vI_4.out) hb)
    have T_5 := Lib.hid (below_trans (T_4.out) hb)
    have z_5 : w4.heap.size ≤ w5.heap.size := (by have := hb.size; (try simp at this); omega)
    clear hb r_x_4 r_r_4 r_rI_4 r_v_4 r_vI_4 T_4
    rcases kr with _ | _
    · go_wp2_with fail
      (with_reducible refine (I_FlightsSame_q _ _ _ _ _ _ _ Rr Rv (true) (r_r_5.out) (r_v_5.out) (by omega) (by omega) (by rw [HQ.out]; exact eqL_self _)).mono ?_)
      rintro e w6 ⟨rfl, hb⟩
      have r_x_6 := Lib.hid (rdf_b (r_x_5.out) hb)
      have r_r_6 := Lib.hid (rdf_b (r_r_5.out) hb)
      have r_rI_6 := Lib.hid (rdi_b (r_rI_5.out) hb)
      have r_v_6 := Lib.hid (rdf_b (r_v_5.out) hb)
      have r_vI_6 := Lib.hid (rdi_b (r_vI_5.out) hb)
      have T_6 := Lib.hid (below_trans (T_5.out) hb)
      have z_6 : w5.heap.size ≤ w6.heap.size := (by have := hb.size; (try simp at this); omega)
      clear hb r_x_5 r_r_5 r_rI_5 r_v_5 r_vI_5 T_5
      go_wp2_with fail
      (with_reducible refine (eqB_true (drew_b (L_wkInts _ _ _ Lr Lr (rdi_rd (r_rI_6.out)) (rdi_rd (r_vI_6.out)) (by omega) (by omega)))).mono ?_)
      rintro e w7 ⟨rfl, hb⟩
      have r_x_7 := Lib.hid (rdf_b (r_x_6.out) hb)
      have r_r_7 := Lib.hid (rdf_b (r_r_6.out) hb)
      have r_rI_7 := Lib.hid (rdi_b (r_rI_6.out) hb)
      have r_v_7 := Lib.hid (rdf_b (r_v_6.out) hb)
      have r_vI_7 := Lib.hid (rdi_b (r_vI_6.out) hb)
      have T_7 := Lib.hid (below_trans (T_6.out) hb)
      have z_7 : w6.heap.size ≤ w7.heap.size := (by have := hb.size; (try simp at this); omega)
      clear hb r_x_6 r_r_6 r_rI_6 r_v_6 r_vI_6 T_6
      go_wp2_with fail
      go_ret
      exact ⟨rfl, (T_7.out)⟩
    · clear r_v_5 r_vI_5 r_rI_5
      have haf := fland_after HJr.out
      have HAV := Lib.hid haf.1
      have HAL := Lib.hid haf.2.1
      have HAJ := Lib.hid haf.2.2.1
      have HAN := Lib.hid haf.2.2.2
      clear haf
      go_wp2_with fail
      (with_reducible refine (I_JoinFlight _ _ _ _ Rr key t (r_r_5.out) (by omega)).mono ?_)
      rintro e w6 ⟨Rq, aq, cq, fq, kq, hjq, rfl, hof, hb⟩
      have r_x_6 := Lib.hid (rdf_b (r_x_5.out) hb)
      have r_r_6 := Lib.hid (rdf_b (r_r_5.out) hb)
      have T_6 := Lib.hid (below_trans (T_5.out) hb)
      have z_6 : w5.heap.size ≤ w6.heap.size := (by have := hb.size; (try simp at this); omega)
      have HJq := Lib.hid hjq
      have hzq : Rq.length + tsum Rq ≤ Rr.length + tsum Rr + 1 := (by have h := fjoin_sum (Rr.map fl) key t; rw [hjq] at h; simpa [tsum] using h)
      clear hb r_x_5 r_r_5 T_5 hjq
      have r_q_6 := Lib.hid (rdf_mono (owf_rdf hof) (Nat.le_refl _) (Nat.le_refl _) (Nat.le_refl _))
      clear hof
      have e := HAJ.out.symm.trans HJq.out
      simp only [Prod.mk.injEq] at e
      obtain ⟨_, rfl, rfl⟩ := e
      clear hzq HJq
      clear r_q_6
      go_wp2_with fail
      (with_reducible refine (I_LandFlight_s _ _ _ _ Rr key t (r_r_6.out) (by omega)).mono ?_)
      rintro e w7 ⟨Rp, ap, cp, Lp, bp, dp, kp, hjp, rfl, hr, hi, hb⟩
      have r_x_7 := Lib.hid (rdf_b (r_x_6.out) hb)
      have r_r_7 := Lib.hid (rdf_b (r_r_6.out) hb)
      have T_7 := Lib.hid (below_trans (T_6.out) hb)
      have z_7 : w6.heap.size ≤ w7.heap.size := (by have := hb.size; (try simp at this); omega)
      have r_p_7 := Lib.hid (rdf_mono hr (show w6.heap.size ≤ _ by first | omega | (simp; done) | (simp; omega)) (Nat.le_refl _) (Nat.le_refl _))
      have HJp := Lib.hid hjp
      have hzp : Rp.length + tsum Rp + Lp.length ≤ Rr.length + tsum Rr := (by have h := fland_sum hjp; simp only [List.length_map] at h; have h2 : fsum (Rp.map fl) = tsum Rp := rfl; have h3 : fsum (Rr.map fl) = tsum Rr := rfl; omega)
      clear hb r_x_6 r_r_6 T_6 hr hjp
      have r_pI_7 := Lib.hid hi
      clear hi
      have e := HAN.out.symm.trans HJp.out
      simp only [Prod.mk.injEq] at e
      obtain ⟨_, _, rfl⟩ := e
      clear hzp HJp
      clear r_p_7 r_pI_7
      go_wp2_with fail
      (with_reducible refine (I_FlightsValid_q _ _ _ _ Rr true (r_r_7.out) (by omega) (HAV.out)).mono ?_)
      rintro e w8 ⟨rfl, hb⟩
      have r_x_8 := Lib.hid (rdf_b (r_x_7.out) hb)
      have r_r_8 := Lib.hid (rdf_b (r_r_7.out) hb)
      have T_8 := Lib.hid (below_trans (T_7.out) hb)
      have z_8 : w7.heap.size ≤ w8.heap.size := (by have := hb.size; (try simp at this); omega)
      clear hb r_x_7 r_r_7 T_7
      have hln : (Rr.length : Int) = (X.length : Int) - 1 := by have h := HAL.out; simp only [List.length_map] at h; omega
      have hx0 : 1 ≤ X.length := by omega
      have y1 : IntKind.i64.wrap ((X.length : Int) - 1) = (X.length : Int) - 1 := IntWalk.i64_in _ (by omega)
      go_wp2_with fail
      go_ret
      exact ⟨rfl, (T_8.out)⟩
end Go.Proofs.Ytafpnkcdoeicgaa
