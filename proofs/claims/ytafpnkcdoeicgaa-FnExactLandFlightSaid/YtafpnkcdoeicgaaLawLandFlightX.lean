/- The law FnExactLandFlight: the walk. -/
import Derived.Test.YtafpnkcdoeicgaaLandI
import Derived.Test.YtafpnkcdoeicgaaLandS
import Derived.Test.YtafpnkcdoeicgaaPlainFlight
import Derived.Test.YtafpnkcdoeicgaaFlightMark
namespace Go.Proofs.Ytafpnkcdoeicgaa
open Go.RowKit
set_option maxHeartbeats 4000000 in
set_option maxRecDepth 100000 in
theorem W_FnExactLandFlight (w : World) (v0 : Value) (ts0 : List FT) (key thr0 : Int) (hr0 : RdF w 0 w.heap.size v0 ts0) (hn0 : ts0.length ≤ 9223372036854775807) (hm0 : ∀ t ∈ ts0, t.2.2.1.length ≤ 9223372036854775807) :
    Calls Try.prog 6 #[v0, .int .i64 key, .int .i64 thr0] w fun e w' => e = .returned (.bool true) ∧ Below w.heap.size w w' := by
  have r_A0_0 := Lib.hid hr0
  clear hr0
  by_cases hb0 : (1048576 : Int) < (ts0.length + tsum ts0 : Nat)
  · go_enter Try.func6, Try.ntmps6
    have T_0 : Hid (Below w.heap.size w w) := Lib.hid (Below.refl _ _)
    go_wp2_with fail
    (with_reducible refine (L_szFlightS_no _ _ _ _ ts0 (1048576) (r_A0_0.out) hm0 hn0 hb0 (by omega) (by omega)).mono ?_)
    rintro e w1 ⟨rfl, hb⟩
    have r_A0_1 := Lib.hid (rdf_b (r_A0_0.out) hb)
    have T_1 := Lib.hid (below_trans (T_0.out) hb)
    have z_1 : w.heap.size ≤ w1.heap.size := (by have := hb.size; (try simp at this); omega)
    clear hb r_A0_0 T_0
    go_wp2_with fail
    go_ret
    exact ⟨rfl, (T_1.out)⟩
  clear hm0
  go_enter Try.func6, Try.ntmps6
  have T_0 : Hid (Below w.heap.size w w) := Lib.hid (Below.refl _ _)
  go_wp2_with fail
  (with_reducible refine (L_szFlightS_ok _ _ _ _ ts0 (1048576) (r_A0_0.out) (by omega) (by omega)).mono ?_)
  rintro e w1 ⟨rfl, hb⟩
  have r_A0_1 := Lib.hid (rdf_b (r_A0_0.out) hb)
  have T_1 := Lib.hid (below_trans (T_0.out) hb)
  have z_1 : w.heap.size ≤ w1.heap.size := (by have := hb.size; (try simp at this); omega)
  clear hb r_A0_0 T_0
  go_wp2_with fail
  (with_reducible refine (L_toFlightS _ _ _ _ ts0 (r_A0_1.out) (by omega)).mono ?_)
  rintro e w2 ⟨aP, cP, TP, rfl, hlP, hmP, ho, hb⟩
  have r_A0_2 := Lib.hid (rdf_b (r_A0_1.out) hb)
  have T_2 := Lib.hid (below_trans (T_1.out) hb)
  have z_2 : w1.heap.size ≤ w2.heap.size := (by have := hb.size; (try simp at this); omega)
  have r_P_2 := Lib.hid (rdf_mono (owf_rdf ho) (show w1.heap.size ≤ _ by first | omega | (simp; done) | (simp; omega)) (Nat.le_refl _) (Nat.le_refl _))
  have HMP := Lib.hid hmP
  have hzP : TP.length + tsum TP ≤ 4294967296 := (by have e := tsum_eq hmP; omega)
  clear hb r_A0_1 T_1 ho hlP hmP
  have hzP2 : TP.length + tsum TP ≤ 1048576 := by have e := tsum_eq HMP.out; have e2 := len_eq HMP.out; omega
  go_wp2_with fail
  (with_reducible refine (S_LandFlight _ _ _ _ TP key thr0 (r_P_2.out) (by omega)).mono ?_)
  rintro e w3 ⟨RW, aW, cW, LW, bW, dW, kW, hjW, rfl, hr, hi, hb⟩
  have r_A0_3 := Lib.hid (rdf_b (r_A0_2.out) hb)
  have r_P_3 := Lib.hid (rdf_b (r_P_2.out) hb)
  have T_3 := Lib.hid (below_trans (T_2.out) hb)
  have z_3 : w2.heap.size ≤ w3.heap.size := (by have := hb.size; (try simp at this); omega)
  have r_W_3 := Lib.hid (rdf_mono hr (show w2.heap.size ≤ _ by first | omega | (simp; done) | (simp; omega)) (Nat.le_refl _) (Nat.le_refl _))
  have HJW := Lib.hid hjW
  have hzW : RW.length + tsum RW + LW.length ≤ 1048576 := (by have h := fland_sum hjW; simp only [List.length_map] at h; have h2 : fsum (RW.map fl) = tsum RW := rfl; have h3 : fsum (TP.map fl) = tsum TP := rfl; omega)
  clear hb r_A0_2 r_P_2 T_2 hr hjW
  have r_WI_3 := Lib.hid hi
  clear hi
  clear r_P_3
  go_wp2_with fail
  (with_reducible refine (L_toFlightS _ _ _ _ ts0 (r_A0_3.out) (by omega)).mono ?_)
  rintro e w4 ⟨aX, cX, TX, rfl, hlX, hmX, ho, hb⟩
  have r_A0_4 := Lib.hid (rdf_b (r_A0_3.out) hb)
  have r_W_4 := Lib.hid (rdf_b (r_W_3.out) hb)
  have r_WI_4 := Lib.hid (rdi_b (r_WI_3.out) hb)
  have T_4 := Lib.hid (below_trans (T_3.out) hb)
  have z_4 : w3.heap.size ≤ w4.heap.size := (by have := hb.size; (try simp at this); omega)
  have HMX := Lib.hid hmX
  have hzX : TX.length + tsum TX ≤ 1048576 := (by have e := tsum_eq hmX; have e2 := len_eq hmX; omega)
  clear hb r_A0_3 r_W_3 r_WI_3 T_3 hlX hmX
  have r_X_4 := Lib.hid (owf_mono ho (Nat.le_refl _) (Nat.le_refl _) (Nat.le_refl _))
  clear ho
  go_wp2_with fail
  (with_reducible refine (I_LandFlight _ _ _ _ TX key thr0 (owf_rdf (r_X_4.out)) (by omega)).mono ?_)
  rintro e w5 ⟨RG, aG, cG, CG, LG, bG, dG, kG, hjG, rfl, hof, hCG, how, hb⟩
  have r_A0_5 := Lib.hid (rdf_b (r_A0_4.out) hb)
  have r_W_5 := Lib.hid (rdf_b (r_W_4.out) hb)
  have r_WI_5 := Lib.hid (rdi_b (r_WI_4.out) hb)
  have r_X_5 := Lib.hid (owf_b (r_X_4.out) hb)
  have T_5 := Lib.hid (below_trans (T_4.out) hb)
  have z_5 : w4.heap.size ≤ w5.heap.size := (by have := hb.size; (try simp at this); omega)
  have HJG := Lib.hid hjG
  have hzG : RG.length + tsum RG + LG.length ≤ 1048576 := (by have h := fland_sum hjG; simp only [List.length_map] at h; have h2 : fsum (RG.map fl) = tsum RG := rfl; have h3 : fsum (TX.map fl) = tsum TX := rfl; omega)
  clear hb r_A0_4 r_W_4 r_WI_4 r_X_4 T_4 hjG
  have r_G_5 := Lib.hid hof
  have r_GI_5 := Lib.hid how
  have hDG : CG ≤ w5.heap.size := hof.2.2.2.2.2
  clear hof how
  have hq : (RG.map fl, LG, kG) = (RW.map fl, LW, kW) := by rw [← HJG.out, ← HJW.out, HMX.out, HMP.out]
  simp only [Prod.mk.injEq] at hq
  obtain ⟨hq, rfl, rfl⟩ := hq
  have HQ := Lib.hid hq
  clear hq
  go_wp2_with fail
  (with_reducible refine (L_eqFlightS_q _ _ _ _ _ _ _ RG RW true (owf_rdf (r_G_5.out)) (r_W_5.out) (by omega) (by omega) (by rw [HQ.out]; exact eqL_self _)).mono ?_)
  rintro e w6 ⟨rfl, hb⟩
  have r_A0_6 := Lib.hid (rdf_b (r_A0_5.out) hb)
  have r_W_6 := Lib.hid (rdf_b (r_W_5.out) hb)
  have r_WI_6 := Lib.hid (rdi_b (r_WI_5.out) hb)
  have r_X_6 := Lib.hid (owf_b (r_X_5.out) hb)
  have r_G_6 := Lib.hid (owf_b (r_G_5.out) hb)
  have r_GI_6 := Lib.hid (owi_b (r_GI_5.out) hb)
  have T_6 := Lib.hid (below_trans (T_5.out) hb)
  have z_6 : w5.heap.size ≤ w6.heap.size := (by have := hb.size; (try simp at this); omega)
  clear hb r_A0_5 r_W_5 r_WI_5 r_X_5 r_G_5 r_GI_5 T_5
  go_wp2_with fail
  (with_reducible refine (eqB_true (drew_b (L_eqIntS _ _ _ LG LG (rdi_rd (owi_rdi (r_GI_6.out))) (rdi_rd (r_WI_6.out)) (by omega) (by omega)))).mono ?_)
  rintro e w7 ⟨rfl, hb⟩
  have r_A0_7 := Lib.hid (rdf_b (r_A0_6.out) hb)
  have r_W_7 := Lib.hid (rdf_b (r_W_6.out) hb)
  have r_WI_7 := Lib.hid (rdi_b (r_WI_6.out) hb)
  have r_X_7 := Lib.hid (owf_b (r_X_6.out) hb)
  have r_G_7 := Lib.hid (owf_b (r_G_6.out) hb)
  have r_GI_7 := Lib.hid (owi_b (r_GI_6.out) hb)
  have T_7 := Lib.hid (below_trans (T_6.out) hb)
  have z_7 : w6.heap.size ≤ w7.heap.size := (by have := hb.size; (try simp at this); omega)
  clear hb r_A0_6 r_W_6 r_WI_6 r_X_6 r_G_6 r_GI_6 T_6
  go_wp2_with fail
  (with_reducible refine (L_toFlightS _ _ _ _ ts0 (r_A0_7.out) (by omega)).mono ?_)
  rintro e w8 ⟨aZ, cZ, TZ, rfl, hlZ, hmZ, ho, hb⟩
  have r_A0_8 := Lib.hid (rdf_b (r_A0_7.out) hb)
  have r_W_8 := Lib.hid (rdf_b (r_W_7.out) hb)
  have r_WI_8 := Lib.hid (rdi_b (r_WI_7.out) hb)
  have r_X_8 := Lib.hid (owf_b (r_X_7.out) hb)
  have r_G_8 := Lib.hid (owf_b (r_G_7.out) hb)
  have r_GI_8 := Lib.hid (owi_b (r_GI_7.out) hb)
  have T_8 := Lib.hid (below_trans (T_7.out) hb)
  have z_8 : w7.heap.size ≤ w8.heap.size := (by have := hb.size; (try simp at this); omega)
  have HMZ := Lib.hid hmZ
  have hzZ : TZ.length + tsum TZ ≤ 1048576 := (by have e := tsum_eq hmZ; have e2 := len_eq hmZ; omega)
  clear hb r_A0_7 r_W_7 r_WI_7 r_X_7 r_G_7 r_GI_7 T_7 hlZ hmZ
  have r_Z_8 := Lib.hid (owf_mono ho (Nat.le_refl _) (Nat.le_refl _) (Nat.le_refl _))
  clear ho
  go_wp2_with fail
  (with_reducible refine (L_eqFlightS_q _ _ _ _ _ _ _ TX TZ true (owf_rdf (r_X_8.out)) (owf_rdf (r_Z_8.out)) (by omega) (by omega) (by rw [HMX.out, HMZ.out]; exact eqL_self _)).mono ?_)
  rintro e w9 ⟨rfl, hb⟩
  have r_A0_9 := Lib.hid (rdf_b (r_A0_8.out) hb)
  have r_W_9 := Lib.hid (rdf_b (r_W_8.out) hb)
  have r_WI_9 := Lib.hid (rdi_b (r_WI_8.out) hb)
  have r_X_9 := Lib.hid (owf_b (r_X_8.out) hb)
  have r_G_9 := Lib.hid (owf_b (r_G_8.out) hb)
  have r_GI_9 := Lib.hid (owi_b (r_GI_8.out) hb)
  have r_Z_9 := Lib.hid (owf_b (r_Z_8.out) hb)
  have T_9 := Lib.hid (below_trans (T_8.out) hb)
  have z_9 : w8.heap.size ≤ w9.heap.size := (by have := hb.size; (try simp at this); omega)
  clear hb r_A0_8 r_W_8 r_WI_8 r_X_8 r_G_8 r_GI_8 r_Z_8 T_8
  clear r_Z_9
  go_wp2_with fail
  (with_reducible refine (L_markFlightS _ _ _ _ (TX) 1 (r_X_9.out) (by omega) (by omega) (by omega)).mono ?_)
  rintro e w10 ⟨rfl, ho, hf⟩
  have r_X_10 := Lib.hid ho
  have r_A0_10 := Lib.hid (rdf_fr r_A0_9.out hf (by omega))
  have r_W_10 := Lib.hid (rdf_fr r_W_9.out hf (by omega))
  have r_WI_10 := Lib.hid (rdi_fr r_WI_9.out hf (by omega))
  have r_G_10 := Lib.hid (owf_fr r_G_9.out hf (by omega))
  have r_GI_10 := Lib.hid (owi_fr r_GI_9.out hf (by omega))
  have T_10 := Lib.hid (below_fr T_9.out hf (by omega) (by omega))
  have z_10 : w9.heap.size ≤ w10.heap.size := hf.size
  clear ho hf r_X_9 r_A0_9 r_W_9 r_WI_9 r_G_9 r_GI_9 T_9
  have n10 : decide ((1 : Int) + 2 * (TX.length : Int) + (tsum TX : Int) < 0) = false := decide_eq_false (by omega)
  go_wp2_with fail
  (with_reducible refine (L_eqFlightS_q _ _ _ _ _ _ _ RG RW true (owf_rdf (r_G_10.out)) (r_W_10.out) (by omega) (by omega) (by rw [HQ.out]; exact eqL_self _)).mono ?_)
  rintro e w11 ⟨rfl, hb⟩
  have r_A0_11 := Lib.hid (rdf_b (r_A0_10.out) hb)
  have r_W_11 := Lib.hid (rdf_b (r_W_10.out) hb)
  have r_WI_11 := Lib.hid (rdi_b (r_WI_10.out) hb)
  have r_X_11 := Lib.hid (owf_b (r_X_10.out) hb)
  have r_G_11 := Lib.hid (owf_b (r_G_10.out) hb)
  have r_GI_11 := Lib.hid (owi_b (r_GI_10.out) hb)
  have T_11 := Lib.hid (below_trans (T_10.out) hb)
  have z_11 : w10.heap.size ≤ w11.heap.size := (by have := hb.size; (try simp at this); omega)
  clear hb r_A0_10 r_W_10 r_WI_10 r_X_10 r_G_10 r_GI_10 T_10
  go_wp2_with fail
  (with_reducible refine (eqB_true (drew_b (L_eqIntS _ _ _ LG LG (rdi_rd (owi_rdi (r_GI_11.out))) (rdi_rd (r_WI_11.out)) (by omega) (by omega)))).mono ?_)
  rintro e w12 ⟨rfl, hb⟩
  have r_A0_12 := Lib.hid (rdf_b (r_A0_11.out) hb)
  have r_W_12 := Lib.hid (rdf_b (r_W_11.out) hb)
  have r_WI_12 := Lib.hid (rdi_b (r_WI_11.out) hb)
  have r_X_12 := Lib.hid (owf_b (r_X_11.out) hb)
  have r_G_12 := Lib.hid (owf_b (r_G_11.out) hb)
  have r_GI_12 := Lib.hid (owi_b (r_GI_11.out) hb)
  have T_12 := Lib.hid (below_trans (T_11.out) hb)
  have z_12 : w11.heap.size ≤ w12.heap.size := (by have := hb.size; (try simp at this); omega)
  clear hb r_A0_11 r_W_11 r_WI_11 r_X_11 r_G_11 r_GI_11 T_11
  clear r_X_12
  go_wp2_with fail
  (with_reducible refine (L_markFlightS _ _ _ _ (RG) 1 (r_G_12.out) (by omega) (by omega) (by omega)).mono ?_)
  rintro e w13 ⟨rfl, ho, hf⟩
  have r_G_13 := Lib.hid ho
  have r_A0_13 := Lib.hid (rdf_fr r_A0_12.out hf (by omega))
  have r_W_13 := Lib.hid (rdf_fr r_W_12.out hf (by omega))
  have r_WI_13 := Lib.hid (rdi_fr r_WI_12.out hf (by omega))
  have r_GI_13 := Lib.hid (owi_fr r_GI_12.out hf (by omega))
  have T_13 := Lib.hid (below_fr T_12.out hf (by omega) (by omega))
  have z_13 : w12.heap.size ≤ w13.heap.size := hf.size
  clear ho hf r_G_12 r_A0_12 r_W_12 r_WI_12 r_GI_12 T_12
  have n13 : decide ((1 : Int) + 2 * (RG.length : Int) + (tsum RG : Int) < 0) = false := decide_eq_false (by omega)
  go_wp2_with fail
  (with_reducible refine (L_markIntS _ _ _ LG ((1 : Int) + 2 * (RG.length : Int) + (tsum RG : Int)) (owi_own (r_GI_13.out)) (by omega) (by omega) (by omega)).mono ?_)
  rintro e w14 ⟨rfl, ho, hg⟩
  have hf : Fr w13 w14 CG w5.heap.size := fr_gr hg (fun x hx => ⟨own_lo (owi_own (r_GI_13.out)) x hx, owi_hi (r_GI_13.out) x hx⟩)
  have r_GI_14 : Hid (OwI w14 CG w5.heap.size (.slice bG LG.length dG) (marks ((1 : Int) + 2 * (RG.length : Int) + (tsum RG : Int)) LG.length)) := Lib.hid ⟨ho, owi_hi (r_GI_13.out)⟩
  have r_A0_14 := Lib.hid (rdf_fr r_A0_13.out hf (by omega))
  have r_W_14 := Lib.hid (rdf_fr r_W_13.out hf (by omega))
  have r_WI_14 := Lib.hid (rdi_fr r_WI_13.out hf (by omega))
  have r_G_14 := Lib.hid (owf_fr r_G_13.out hf (by omega))
  have T_14 := Lib.hid (below_fr T_13.out hf (by omega) (by omega))
  have z_14 : w13.heap.size ≤ w14.heap.size := hf.size
  clear ho hg hf r_GI_13 r_A0_13 r_W_13 r_WI_13 r_G_13 T_13
  have n14 : decide (((1 : Int) + 2 * (RG.length : Int) + (tsum RG : Int)) + (LG.length : Int) < 0) = false := decide_eq_false (by omega)
  go_wp2_with fail
  (with_reducible refine (L_heldFlightS _ _ _ _ RG 1 (owf_rdf (r_G_14.out)) (by omega) (by omega) (by omega)).mono ?_)
  rintro e w114 ⟨rfl, rfl⟩
  go_wp2_with fail
  (with_reducible refine (L_heldIntS _ _ LG.length ((1 : Int) + 2 * (RG.length : Int) + (tsum RG : Int)) (rdi_rd (owi_rdi (r_GI_14.out))) (by omega) (by omega) (by omega)).mono ?_)
  rintro e w214 ⟨rfl, rfl⟩
  go_wp2_with fail
  (with_reducible refine (L_toFlightS _ _ _ _ ts0 (r_A0_14.out) (by omega)).mono ?_)
  rintro e w15 ⟨aY, cY, TY, rfl, hlY, hmY, ho, hb⟩
  have r_A0_15 := Lib.hid (rdf_b (r_A0_14.out) hb)
  have r_W_15 := Lib.hid (rdf_b (r_W_14.out) hb)
  have r_WI_15 := Lib.hid (rdi_b (r_WI_14.out) hb)
  have r_G_15 := Lib.hid (owf_b (r_G_14.out) hb)
  have r_GI_15 := Lib.hid (owi_b (r_GI_14.out) hb)
  have T_15 := Lib.hid (below_trans (T_14.out) hb)
  have z_15 : w14.heap.size ≤ w15.heap.size := (by have := hb.size; (try simp at this); omega)
  have HMY := Lib.hid hmY
  have hzY : TY.length + tsum TY ≤ 1048576 := (by have e := tsum_eq hmY; have e2 := len_eq hmY; omega)
  clear hb r_A0_14 r_W_14 r_WI_14 r_G_14 r_GI_14 T_14 hlY hmY
  have r_Y_15 := Lib.hid (owf_mono ho (Nat.le_refl _) (Nat.le_refl _) (Nat.le_refl _))
  clear ho
  go_wp2_with fail
  (with_reducible refine (I_LandFlight _ _ _ _ TY key thr0 (owf_rdf (r_Y_15.out)) (by omega)).mono ?_)
  rintro e w16 ⟨RH, aH, cH, CH, LH, bH, dH, kH, hjH, rfl, hof, hCH, how, hb⟩
  have r_A0_16 := Lib.hid (rdf_b (r_A0_15.out) hb)
  have r_W_16 := Lib.hid (rdf_b (r_W_15.out) hb)
  have r_WI_16 := Lib.hid (rdi_b (r_WI_15.out) hb)
  have r_G_16 := Lib.hid (owf_b (r_G_15.out) hb)
  have r_GI_16 := Lib.hid (owi_b (r_GI_15.out) hb)
  have r_Y_16 := Lib.hid (owf_b (r_Y_15.out) hb)
  have T_16 := Lib.hid (below_trans (T_15.out) hb)
  have z_16 : w15.heap.size ≤ w16.heap.size := (by have := hb.size; (try simp at this); omega)
  have HJH := Lib.hid hjH
  have hzH : RH.length + tsum RH + LH.length ≤ 1048576 := (by have h := fland_sum hjH; simp only [List.length_map] at h; have h2 : fsum (RH.map fl) = tsum RH := rfl; have h3 : fsum (TY.map fl) = tsum TY := rfl; omega)
  clear hb r_A0_15 r_W_15 r_WI_15 r_G_15 r_GI_15 r_Y_15 T_15 hjH
  have r_H_16 := Lib.hid hof
  have r_HI_16 := Lib.hid how
  have hDH : CH ≤ w16.heap.size := hof.2.2.2.2.2
  clear hof how
  have hq : (RH.map fl, LH, kH) = (RW.map fl, LG, kG) := by rw [← HJH.out, ← HJW.out, HMY.out, HMP.out]
  simp only [Prod.mk.injEq] at hq
  obtain ⟨hq, e1, e2⟩ := hq
  obtain rfl : LG = LH := e1.symm
  obtain rfl : kG = kH := e2.symm
  have HQ2 := Lib.hid hq
  clear hq
  clear r_Y_16
  go_wp2_with fail
  (with_reducible refine (L_eqFlightS_q _ _ _ _ _ _ _ RH RW true (owf_rdf (r_H_16.out)) (r_W_16.out) (by omega) (by omega) (by rw [HQ2.out]; exact eqL_self _)).mono ?_)
  rintro e w17 ⟨rfl, hb⟩
  have r_A0_17 := Lib.hid (rdf_b (r_A0_16.out) hb)
  have r_W_17 := Lib.hid (rdf_b (r_W_16.out) hb)
  have r_WI_17 := Lib.hid (rdi_b (r_WI_16.out) hb)
  have r_G_17 := Lib.hid (owf_b (r_G_16.out) hb)
  have r_GI_17 := Lib.hid (owi_b (r_GI_16.out) hb)
  have r_H_17 := Lib.hid (owf_b (r_H_16.out) hb)
  have r_HI_17 := Lib.hid (owi_b (r_HI_16.out) hb)
  have T_17 := Lib.hid (below_trans (T_16.out) hb)
  have z_17 : w16.heap.size ≤ w17.heap.size := (by have := hb.size; (try simp at this); omega)
  clear hb r_A0_16 r_W_16 r_WI_16 r_G_16 r_GI_16 r_H_16 r_HI_16 T_16
  go_wp2_with fail
  (with_reducible refine (eqB_true (drew_b (L_eqIntS _ _ _ LG LG (rdi_rd (owi_rdi (r_HI_17.out))) (rdi_rd (r_WI_17.out)) (by omega) (by omega)))).mono ?_)
  rintro e w18 ⟨rfl, hb⟩
  have r_A0_18 := Lib.hid (rdf_b (r_A0_17.out) hb)
  have r_W_18 := Lib.hid (rdf_b (r_W_17.out) hb)
  have r_WI_18 := Lib.hid (rdi_b (r_WI_17.out) hb)
  have r_G_18 := Lib.hid (owf_b (r_G_17.out) hb)
  have r_GI_18 := Lib.hid (owi_b (r_GI_17.out) hb)
  have r_H_18 := Lib.hid (owf_b (r_H_17.out) hb)
  have r_HI_18 := Lib.hid (owi_b (r_HI_17.out) hb)
  have T_18 := Lib.hid (below_trans (T_17.out) hb)
  have z_18 : w17.heap.size ≤ w18.heap.size := (by have := hb.size; (try simp at this); omega)
  clear hb r_A0_17 r_W_17 r_WI_17 r_G_17 r_GI_17 r_H_17 r_HI_17 T_17
  go_wp2_with fail
  (with_reducible refine (L_heldFlightS _ _ _ _ RG 1 (owf_rdf (r_G_18.out)) (by omega) (by omega) (by omega)).mono ?_)
  rintro e w118 ⟨rfl, rfl⟩
  go_wp2_with fail
  (with_reducible refine (L_heldIntS _ _ LG.length ((1 : Int) + 2 * (RG.length : Int) + (tsum RG : Int)) (rdi_rd (owi_rdi (r_GI_18.out))) (by omega) (by omega) (by omega)).mono ?_)
  rintro e w218 ⟨rfl, rfl⟩
  go_wp2_with fail
  go_ret
  exact ⟨rfl, (T_18.out)⟩
end Go.Proofs.Ytafpnkcdoeicgaa
