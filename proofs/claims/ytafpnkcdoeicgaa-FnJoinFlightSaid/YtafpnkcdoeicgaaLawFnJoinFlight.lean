/- The law FnJoinFlight: the walk. -/
import Derived.Test.YtafpnkcdoeicgaaLandFn
import Derived.Test.YtafpnkcdoeicgaaCalm
import Derived.Test.YtafpnkcdoeicgaaJoinI
import Derived.Deep.RegionHeld3
import Derived.Deep.DrawnRows
import Derived.Deep.RegionLaw
namespace Go.Proofs.Ytafpnkcdoeicgaa
open Go.RowKit
attribute [local go_sem ↓] Go.wp_at_zero Go.wp_at_succ
theorem fjoin_first {fs rs : List Fl} {key t : Int} (h : fjoin fs key t = (rs, true, true)) : joinOk fs key t = true ∧ key ∉ keys fs ∧ rs = fins fs key t := by
  unfold fjoin at h
  split at h
  · rename_i hj
    split at h
    · simp at h
    · rename_i hm
      simp only [Prod.mk.injEq, and_true] at h
      exact ⟨hj, hm, h.symm⟩
  · simp at h
theorem fjoin_second {fs rs : List Fl} {key t : Int} (h : fjoin fs key t = (rs, false, true)) : joinOk fs key t = true ∧ key ∈ keys fs ∧ rs = fput fs ((keys fs).idxOf key) t := by
  unfold fjoin at h
  split at h
  · rename_i hj
    split at h
    · rename_i hm
      simp only [Prod.mk.injEq, and_true] at h
      exact ⟨hj, hm, h.symm⟩
    · simp at h
  · simp at h
theorem land_first {fs rs : List Fl} {key t : Int} (h : fjoin fs key t = (rs, true, true)) : fval rs = true ∧ fland rs key t = (fs, [], true) := by
  obtain ⟨h1, h2, rfl⟩ := fjoin_first h
  exact ⟨fval_fins h1 h2, fland_fins h1 h2⟩
theorem land_second {ts : List FT} {rs : List Fl} {key t : Int} (h : fjoin (ts.map fl) key t = (rs, false, true)) : fval rs = true ∧ ∃ k, ∃ hk : k < ts.length, (∀ j, (hj : j < k) → (ts[j]'(by omega)).1 ≠ key) ∧ ts[k].1 = key ∧ ∃ qs, fland rs key ts[k].2.1 = (qs, ts[k].2.2.1 ++ [t], true) := by
  obtain ⟨h1, h2, rfl⟩ := fjoin_second h
  obtain ⟨k, hk, _, hix, hky⟩ := key_in h2
  have hk2 : k < (ts.map fl).length := by simpa using hk
  rw [hix]
  refine ⟨fval_fput h1 hk2, k, hk, fun j hj e => ?_, hky, ?_⟩
  · have := keysOk_lt (fval_in (joinOk_in h1).1).2.1 hj hk
    omega
  · obtain ⟨qs, hq⟩ := fland_fput h1 hk2
    simp only [List.getElem_map] at hq
    rw [hky] at hq
    exact ⟨qs, hq⟩

set_option maxHeartbeats 4000000 in
set_option maxRecDepth 100000 in
theorem W_FnJoinFlight (w : World) (v : Value) (n : Nat) (hv : RdY w v n) (hm : n ≤ 9223372036854775807) :
    Calls Try.prog 11 #[v] w fun e w' => e = .returned (.bool true) ∧ Below w.heap.size w w' := by
  have HV := Lib.hid hv
  obtain ⟨a, cap, rfl, hcap, hnc, hr⟩ := hv
  clear hr hnc
  by_cases hbig : 1048576 < n
  · go_enter Try.func11, Try.ntmps11
    go_wp2
    go_ret
    exact ⟨rfl, Below.refl _ _⟩
  · go_enter Try.func11, Try.ntmps11
    have T_0 : Hid (Below w.heap.size w w) := Lib.hid (Below.refl _ _)
    go_wp2_with fail
    (with_reducible refine (S_DrawJoinFlight _ _ n HV.out (by omega)).mono ?_)
    rintro e w1 ⟨X, key, t, a1, c1, rfl, hX, hx, hb⟩
    have T_1 := Lib.hid (below_trans (T_0.out) hb)
    have z_1 : w.heap.size ≤ w1.heap.size := (by have := hb.size; (try simp at this); omega)
    have r_x_1 := Lib.hid (rdf_mono hx (show w.heap.size ≤ _ by first | omega | (simp; done) | (simp; omega)) (Nat.le_refl _) (Nat.le_refl _))
    clear hb T_0 hx
    go_wp2_with fail
    (with_reducible refine (I_JoinFlight _ _ _ _ X key t (r_x_1.out) (by omega)).mono ?_)
    rintro e w2 ⟨Rr, ar, cr, ffr, kr, hjr, rfl, hof, hb⟩
    have r_x_2 := Lib.hid (rdf_b (r_x_1.out) hb)
    have T_2 := Lib.hid (below_trans (T_1.out) hb)
    have z_2 : w1.heap.size ≤ w2.heap.size := (by have := hb.size; (try simp at this); omega)
    have HJr := Lib.hid hjr
    have hzr : Rr.length + tsum Rr ≤ X.length + tsum X + 1 := (by have h := fjoin_sum (X.map fl) key t; rw [hjr] at h; simpa [tsum] using h)
    clear hb r_x_1 T_1 hjr
    have r_r_2 := Lib.hid (rdf_mono (owf_rdf hof) (Nat.le_refl _) (Nat.le_refl _) (Nat.le_refl _))
    clear hof
    go_wp2_with fail
    (with_reducible refine (S_JoinFlight _ _ _ _ X key t (r_x_2.out) (by omega)).mono ?_)
    rintro e w3 ⟨Rv, av, cv, ffv, kv, hjv, rfl, hof, hb⟩
    have r_x_3 := Lib.hid (rdf_b (r_x_2.out) hb)
    have r_r_3 := Lib.hid (rdf_b (r_r_2.out) hb)
    have T_3 := Lib.hid (below_trans (T_2.out) hb)
    have z_3 : w2.heap.size ≤ w3.heap.size := (by have := hb.size; (try simp at this); omega)
    have HJv := Lib.hid hjv
    have hzv : Rv.length + tsum Rv ≤ X.length + tsum X + 1 := (by have h := fjoin_sum (X.map fl) key t; rw [hjv] at h; simpa [tsum] using h)
    clear hb r_x_2 r_r_2 T_2 hjv
    have r_v_3 := Lib.hid (rdf_mono (owf_rdf hof) (Nat.le_refl _) (Nat.le_refl _) (Nat.le_refl _))
    clear hof
    have hq : (Rr.map fl, ffr, kr) = (Rv.map fl, ffv, kv) := by rw [← HJr.out, ← HJv.out]
    simp only [Prod.mk.injEq] at hq
    obtain ⟨hq, rfl, rfl⟩ := hq
    have HQ := Lib.hid hq
    clear hq
    go_wp2_with fail
    (with_reducible refine (I_FlightsSame_q _ _ _ _ _ _ _ Rr Rv (true) (r_r_3.out) (r_v_3.out) (by omega) (by omega) (by rw [HQ.out]; exact eqL_self _)).mono ?_)
    rintro e w4 ⟨rfl, hb⟩
    have r_x_4 := Lib.hid (rdf_b (r_x_3.out) hb)
    have r_r_4 := Lib.hid (rdf_b (r_r_3.out) hb)
    have r_v_4 := Lib.hid (rdf_b (r_v_3.out) hb)
    have T_4 := Lib.hid (below_trans (T_3.out) hb)
    have z_4 : w3.heap.size ≤ w4.heap.size := (by have := hb.size; (try simp at this); omega)
    clear hb r_x_3 r_r_3 r_v_3 T_3
    rcases kr with _ | _
    · go_wp2_with fail
      (with_reducible refine (I_FlightsSame_q _ _ _ _ _ _ _ Rr Rv (true) (r_r_4.out) (r_v_4.out) (by omega) (by omega) (by rw [HQ.out]; exact eqL_self _)).mono ?_)
      rintro e w5 ⟨rfl, hb⟩
      have r_x_5 := Lib.hid (rdf_b (r_x_4.out) hb)
      have r_r_5 := Lib.hid (rdf_b (r_r_4.out) hb)
      have r_v_5 := Lib.hid (rdf_b (r_v_4.out) hb)
      have T_5 := Lib.hid (below_trans (T_4.out) hb)
      have z_5 : w4.heap.size ≤ w5.heap.size := (by have := hb.size; (try simp at this); omega)
      clear hb r_x_4 r_r_4 r_v_4 T_4
      go_wp2_with fail
      go_ret
      exact ⟨rfl, (T_5.out)⟩
    · clear r_v_4
      rcases ffr with _ | _
      rotate_left
      · have hlf := land_first HJr.out
        have HRV := Lib.hid hlf.1
        have HLD := Lib.hid hlf.2
        clear hlf
        go_wp2_with fail
        (with_reducible refine (I_LandFlight_s _ _ _ _ Rr key t (r_r_4.out) (by omega)).mono ?_)
        rintro e w5 ⟨Rp, ap, cp, Lp, bp, dp, kp, hjp, rfl, hr, hi, hb⟩
        have r_x_5 := Lib.hid (rdf_b (r_x_4.out) hb)
        have r_r_5 := Lib.hid (rdf_b (r_r_4.out) hb)
        have T_5 := Lib.hid (below_trans (T_4.out) hb)
        have z_5 : w4.heap.size ≤ w5.heap.size := (by have := hb.size; (try simp at this); omega)
        have r_p_5 := Lib.hid (rdf_mono hr (show w4.heap.size ≤ _ by first | omega | (simp; done) | (simp; omega)) (Nat.le_refl _) (Nat.le_refl _))
        have HJp := Lib.hid hjp
        have hzp : Rp.length + tsum Rp + Lp.length ≤ Rr.length + tsum Rr := (by have h := fland_sum hjp; simp only [List.length_map] at h; have h2 : fsum (Rp.map fl) = tsum Rp := rfl; have h3 : fsum (Rr.map fl) = tsum Rr := rfl; omega)
        clear hb r_x_4 r_r_4 T_4 hr hjp
        have r_pI_5 := Lib.hid hi
        clear hi
        have e := HLD.out.symm.trans HJp.out
        simp only [Prod.mk.injEq] at e
        obtain ⟨hq2, rfl, rfl⟩ := e
        have HQ2 := Lib.hid hq2
        clear hq2
        clear r_pI_5
        go_wp2_with fail
        (with_reducible refine (I_FlightsValid_q _ _ _ _ Rr true (r_r_5.out) (by omega) (HRV.out)).mono ?_)
        rintro e w6 ⟨rfl, hb⟩
        have r_x_6 := Lib.hid (rdf_b (r_x_5.out) hb)
        have r_r_6 := Lib.hid (rdf_b (r_r_5.out) hb)
        have r_p_6 := Lib.hid (rdf_b (r_p_5.out) hb)
        have T_6 := Lib.hid (below_trans (T_5.out) hb)
        have z_6 : w5.heap.size ≤ w6.heap.size := (by have := hb.size; (try simp at this); omega)
        clear hb r_x_5 r_r_5 r_p_5 T_5
        go_wp2_with fail
        (with_reducible refine (I_FlightsSame_q _ _ _ _ _ _ _ Rp X (true) (r_p_6.out) (r_x_6.out) (by omega) (by omega) (by rw [← HQ2.out]; exact eqL_self _)).mono ?_)
        rintro e w7 ⟨rfl, hb⟩
        have r_x_7 := Lib.hid (rdf_b (r_x_6.out) hb)
        have r_r_7 := Lib.hid (rdf_b (r_r_6.out) hb)
        have r_p_7 := Lib.hid (rdf_b (r_p_6.out) hb)
        have T_7 := Lib.hid (below_trans (T_6.out) hb)
        have z_7 : w6.heap.size ≤ w7.heap.size := (by have := hb.size; (try simp at this); omega)
        clear hb r_x_6 r_r_6 r_p_6 T_6
        go_wp2_with fail
        go_ret
        exact ⟨rfl, (T_7.out)⟩
      · obtain ⟨hrv, k, hk, hlo, hky, qs, hld⟩ := land_second HJr.out
        have HRV := Lib.hid hrv
        have HLO := Lib.hid hlo
        have HKY := Lib.hid hky
        have HLD := Lib.hid hld
        clear hrv hlo hky hld
        go_wp2
        go_loopw [15, 16, 17, 18] (fun vi _ _ _ wr => ∃ j : Nat, j ≤ k ∧ vi = .int .i64 (j : Int) ∧ Below w4.heap.size w4 wr) (fun i _ _ _ _ => X.length - (intOf i).toNat)
        case atStart => exact ⟨0, Nat.zero_le _, rfl, Below.refl _ _⟩
        case round =>
          obtain ⟨j, hj, rfl, hbel⟩ := hrel
          have HB := Lib.hid hbel
          have hjX : j < X.length := by omega
          have hjX2 : (j : Int) < (X.length : Int) := by omega
          have hj0 : (0 : Int) ≤ (j : Int) := by omega
          have hbz := hbel.size
          obtain ⟨a9, c9, e9, hcap, hnc, hc⟩ := rdf_cells (rdf_b r_x_4.out hbel)
          simp only [Value.slice.injEq, true_and] at e9
          obtain ⟨rfl, rfl⟩ := e9
          rcases hc with hc | ⟨gx, ox, rfl, _, _, _, hc⟩
          · omega
          obtain ⟨e1, e2, e3⟩ := hc j hjX
          obtain ⟨xa, xc, hx3⟩ := rd_sl (rdf_rd (rdf_b r_x_4.out hbel) hjX)
          have hin := rdf_in (rdf_b r_x_4.out hbel) hjX
          rw [hx3] at e3 hin
          have hwl := tsum_get_le hjX
          obtain ⟨p, hp⟩ : ∃ p, X[j].1 = p := ⟨_, rfl⟩
          obtain ⟨q, hq⟩ : ∃ q, X[j].2.1 = q := ⟨_, rfl⟩
          obtain ⟨W, hW⟩ : ∃ W, X[j].2.2.1 = W := ⟨_, rfl⟩
          obtain ⟨m, hm⟩ : ∃ m, W.length = m := ⟨_, rfl⟩
          have HP := Lib.hid hp
          have HM := Lib.hid hm
          have hm6 : m ≤ 6 := by rw [hW] at hwl; omega
          rw [hp] at e1
          rw [hq] at e2
          rw [hW] at e3 hin
          rw [hm] at e3 hin
          clear hc hx3 hnc hwl hp hm
          by_cases hjk : j = k
          · subst hjk
            have hpk : p = key := HP.out.symm.trans HKY.out
            subst hpk
            have HLD2 : Hid (fland (Rr.map fl) p q = (qs, W ++ [t], true)) := Lib.hid (by have h := HLD.out; rw [hq, hW] at h; exact h)
            clear HLO HKY HLD HP hq hW
            obtain ⟨w14, rfl⟩ : ∃ wo : World, wo = wr := ⟨_, rfl⟩
            have r_x_14 := Lib.hid (rdf_b r_x_4.out hbel)
            have r_r_14 := Lib.hid (rdf_b r_r_4.out hbel)
            have r_y_14 := Lib.hid hin
            have c_Z0_14 := e1
            have c_Z1_14 := e2
            have c_Z2_14 := e3
            have T_14 := Lib.hid (below_trans T_4.out hbel)
            clear hin e1 e2 e3 hbel r_x_4 r_r_4 T_4 HB
            go_wp2_with fail
            (with_reducible refine (I_LandFlight_s _ _ _ _ Rr p q (r_r_14.out) (by omega)).mono ?_)
            rintro e w15 ⟨Rp, ap, cp, Lp, bp, dp, kp, hjp, rfl, hr, hi, hb⟩
            have c_Z0_15 := cell_b (c_Z0_14) hb
            have c_Z1_15 := cell_b (c_Z1_14) hb
            have c_Z2_15 := cell_b (c_Z2_14) hb
            have r_x_15 := Lib.hid (rdf_b (r_x_14.out) hb)
            have r_r_15 := Lib.hid (rdf_b (r_r_14.out) hb)
            have r_y_15 := Lib.hid (rdi_b (r_y_14.out) hb)
            have T_15 := Lib.hid (below_trans (T_14.out) hb)
            have z_15 : w14.heap.size ≤ w15.heap.size := (by have := hb.size; (try simp at this); omega)
            have r_p_15 := Lib.hid (rdf_mono hr (show w14.heap.size ≤ _ by first | omega | (simp; done) | (simp; omega)) (Nat.le_refl _) (Nat.le_refl _))
            have HJp := Lib.hid hjp
            have hzp : Rp.length + tsum Rp + Lp.length ≤ Rr.length + tsum Rr := (by have h := fland_sum hjp; simp only [List.length_map] at h; have h2 : fsum (Rp.map fl) = tsum Rp := rfl; have h3 : fsum (Rr.map fl) = tsum Rr := rfl; omega)
            have ac_Z0_15 := fun o => cell_b (c_Z0_15) (below_alloc _ o)
            have ac_Z1_15 := fun o => cell_b (c_Z1_15) (below_alloc _ o)
            have ac_Z2_15 := fun o => cell_b (c_Z2_15) (below_alloc _ o)
            clear hb c_Z0_14 c_Z1_14 c_Z2_14 r_x_14 r_r_14 r_y_14 T_14 hr hjp
            have r_pI_15 := Lib.hid hi
            clear hi
            have e := HLD2.out.symm.trans HJp.out
            simp only [Prod.mk.injEq] at e
            obtain ⟨_, rfl, rfl⟩ := e
            clear hzp HJp HLD2
            clear r_p_15
            have hlw : (W ++ [t]).length = m + 1 := by simp [HM.out]
            rw [hlw]
            have hri := r_pI_15.out
            rw [hlw] at hri
            obtain ⟨hx9, hcw, gw, ow, rfl, hwc⟩ := rdi_cells hri (by omega)
            clear hx9
            have c_V0_15 := hwc m (by rw [hlw]; omega)
            rw [List.getElem_append_right (by rw [HM.out]; exact Nat.le_refl _)] at c_V0_15
            simp only [List.getElem_singleton] at c_V0_15
            have r_u_15 : Hid (RdI w15 (w14.heap.size) (w15.heap.size) (.slice (some ⟨gw, ow, none⟩) m dp) W) := Lib.hid (by have h := rdi_take (k := m) hri (by rw [hlw]; omega); rw [List.take_left' HM.out] at h; exact h)
            have hmd : (m : Int) ≤ (dp : Int) := by omega
            have hmd2 : m ≤ dp := by omega
            have hm0 : (0 : Int) ≤ (m : Int) := by omega
            have hm1 : (m : Int) < (m : Int) + 1 := by omega
            have y2 : IntKind.i64.wrap (m : Int) = (m : Int) := IntWalk.i64_in _ (by omega)
            have y3 : IntKind.i64.wrap ((m : Int) + 1 - 1) = (m : Int) := by rw [Int.add_sub_cancel]; exact y2
            clear hwc hri hlw r_pI_15
            go_wp2_with fail
            have hp : ∀ ω1 ω2, (fun w' => w'.cell? ⟨gw, ow + m, none⟩ = some (.int .i64 t) ∧ w'.cell? ⟨gx, ox + j * 3 + 2, none⟩ = some (.slice xa m xc) ∧ RdF w' (w1.heap.size) (w2.heap.size) (.slice ar Rr.length cr) Rr ∧ RdI w' (w14.heap.size) (w15.heap.size) (.slice (some ⟨gw, ow, none⟩) m dp) W ∧ RdI w' (w.heap.size) (w1.heap.size) (.slice xa m xc) W) ω1 → Below ω1.heap.size ω1 ω2 → (fun w' => w'.cell? ⟨gw, ow + m, none⟩ = some (.int .i64 t) ∧ w'.cell? ⟨gx, ox + j * 3 + 2, none⟩ = some (.slice xa m xc) ∧ RdF w' (w1.heap.size) (w2.heap.size) (.slice ar Rr.length cr) Rr ∧ RdI w' (w14.heap.size) (w15.heap.size) (.slice (some ⟨gw, ow, none⟩) m dp) W ∧ RdI w' (w.heap.size) (w1.heap.size) (.slice xa m xc) W) ω2 := fun _ _ h hb => ⟨cell_b h.1 hb, cell_b h.2.1 hb, rdf_b h.2.2.1 hb, rdi_b h.2.2.2.1 hb, rdi_b h.2.2.2.2 hb⟩
            have HP := Lib.hid hp
            clear hp
            refine wp_region_calm (fun w' => w'.cell? ⟨gw, ow + m, none⟩ = some (.int .i64 t) ∧ w'.cell? ⟨gx, ox + j * 3 + 2, none⟩ = some (.slice xa m xc) ∧ RdF w' (w1.heap.size) (w2.heap.size) (.slice ar Rr.length cr) Rr ∧ RdI w' (w14.heap.size) (w15.heap.size) (.slice (some ⟨gw, ow, none⟩) m dp) W ∧ RdI w' (w.heap.size) (w1.heap.size) (.slice xa m xc) W) (by kernel_rfl) (by kernel_rfl) ⟨c_V0_15, c_Z2_15, r_r_15.out, r_u_15.out, r_y_15.out⟩ HP.out ?_
            intro hne hs
            (try dsimp only at hs)
            have q_V0 := fun n => (hs n).1
            have q_Z2 := fun n => (hs n).2.1
            have Q_r := Lib.hid (fun n => (hs n).2.2.1)
            have Q_u := Lib.hid (fun n => (hs n).2.2.2.1)
            have Q_y := Lib.hid (fun n => (hs n).2.2.2.2)
            clear hs c_V0_15 c_Z2_15 c_Z0_15 c_Z1_15
            repeat (go_big_quiet_step (first | (go_at_call 18; with_reducible exact calm_of HP.out (I_FlightsValid_q _ _ _ _ Rr true (Q_r.out _) (by omega) HRV.out)) | (go_at_call 29; with_reducible exact calm_of HP.out (eqB_true (drew_b (L_wkInts _ _ _ W W (rdi_rd (Q_u.out _)) (rdi_rd (Q_y.out _)) (by rw [HM.out]; omega) (by rw [HM.out]; omega)))))))
            refine wpQuiet_nil ?_
            rintro _ ⟨n, rfl⟩
            go_wp2_with fail
            go_ret
            exact ⟨rfl, below_trans (T_15.out) n.below⟩
          · have n9 : (p == key) = false := by simpa using (fun e => HLO.out j (by omega) (HP.out.trans e))
            clear hin hq hW hbel
            go_wp2
            go_roundw
            case rel => exact ⟨j + 1, by omega, by go_num, HB.out⟩
            case measure => simp [intOf]; omega
end Go.Proofs.Ytafpnkcdoeicgaa
