/- The law FnExactJoinFlight: the walk. -/
import Derived.Test.YtafpnkcdoeicgaaJoinI
import Derived.Test.YtafpnkcdoeicgaaFlightMark
namespace Go.Proofs.Ytafpnkcdoeicgaa
open Go.RowKit
set_option maxHeartbeats 4000000 in
set_option maxRecDepth 100000 in
theorem W_FnExactJoinFlight (w : World) (v0 : Value) (ts0 : List FT) (key thr0 : Int) (hr0 : RdF w 0 w.heap.size v0 ts0) (hn0 : ts0.length ≤ 9223372036854775807) (hm0 : ∀ t ∈ ts0, t.2.2.1.length ≤ 9223372036854775807) :
    Calls Try.prog 5 #[v0, .int .i64 key, .int .i64 thr0] w fun e w' => e = .returned (.bool true) ∧ Below w.heap.size w w' := by
  have r_A0_0 := Lib.hid hr0
  clear hr0
  by_cases hb0 : (1048576 : Int) < (ts0.length + tsum ts0 : Nat)
  · go_enter Try.func5, Try.ntmps5
    have T_0 : Hid (Below w.heap.size w w) := Lib.hid (Below.refl _ _)
    go_wp2_with fail
    (with_reducible refine (L_szFlightS_no _ _ _ _ ts0 (1048576) (r_A0_0.out) hm0 hn0 hb0 (by omega) (by omega)).mono ?_)
    rintro e w1 ⟨rfl, hb⟩
    have r_A0_1 := Lib.hid (rdf_b (r_A0_0.out) hb)
    have T_1 := Lib.hid (below_trans (T_0.out) hb)
    have z_1 : w.heap.size ≤ w1.heap.size := (by have := hb.size; (try simp at this); omega)
    clear hb r_A0_0 T_0
    go_wp2_with fail
    go_ret
    exact ⟨rfl, (T_1.out)⟩
  clear hm0
  go_enter Try.func5, Try.ntmps5
  have T_0 : Hid (Below w.heap.size w w) := Lib.hid (Below.refl _ _)
  go_wp2_with fail
  (with_reducible refine (L_szFlightS_ok _ _ _ _ ts0 (1048576) (r_A0_0.out) (by omega) (by omega)).mono ?_)
  rintro e w1 ⟨rfl, hb⟩
  have r_A0_1 := Lib.hid (rdf_b (r_A0_0.out) hb)
  have T_1 := Lib.hid (below_trans (T_0.out) hb)
  have z_1 : w.heap.size ≤ w1.heap.size := (by have := hb.size; (try simp at this); omega)
  clear hb r_A0_0 T_0
  go_wp2_with fail
  (with_reducible refine (L_toFlightS _ _ _ _ ts0 (r_A0_1.out) (by omega)).mono ?_)
  rintro e w2 ⟨aP, cP, TP, rfl, hlP, hmP, ho, hb⟩
  have r_A0_2 := Lib.hid (rdf_b (r_A0_1.out) hb)
  have T_2 := Lib.hid (below_trans (T_1.out) hb)
  have z_2 : w1.heap.size ≤ w2.heap.size := (by have := hb.size; (try simp at this); omega)
  have r_P_2 := Lib.hid (rdf_mono (owf_rdf ho) (show w1.heap.size ≤ _ by first | omega | (simp; done) | (simp; omega)) (Nat.le_refl _) (Nat.le_refl _))
  have HMP := Lib.hid hmP
  have hzP : TP.length + tsum TP ≤ 4294967296 := (by have e := tsum_eq hmP; omega)
  clear hb r_A0_1 T_1 ho hlP hmP
  go_wp2_with fail
  (with_reducible refine (S_JoinFlight _ _ _ _ TP key thr0 (r_P_2.out) hzP).mono ?_)
  rintro e w3 ⟨RW, aW, cW, fW, kW, hjW, rfl, ho, hb⟩
  have r_A0_3 := Lib.hid (rdf_b (r_A0_2.out) hb)
  have r_P_3 := Lib.hid (rdf_b (r_P_2.out) hb)
  have T_3 := Lib.hid (below_trans (T_2.out) hb)
  have z_3 : w2.heap.size ≤ w3.heap.size := (by have := hb.size; (try simp at this); omega)
  have HJW := Lib.hid hjW
  have hzW : RW.length + tsum RW ≤ 1048577 := (by have h : RW.length + tsum RW ≤ TP.length + tsum TP + 1 := (by have h := fjoin_sum (TP.map fl) key thr0; rw [hjW] at h; simpa [tsum] using h); have e := tsum_eq HMP.out; have e2 := len_eq HMP.out; omega)
  clear hb r_A0_2 r_P_2 T_2 hjW
  have r_W_3 := Lib.hid (owf_mono ho (Nat.le_refl _) (Nat.le_refl _) (Nat.le_refl _))
  clear ho
  clear r_P_3
  go_wp2_with fail
  (with_reducible refine (L_toFlightS _ _ _ _ ts0 (r_A0_3.out) (by omega)).mono ?_)
  rintro e w4 ⟨aX, cX, TX, rfl, hlX, hmX, ho, hb⟩
  have r_A0_4 := Lib.hid (rdf_b (r_A0_3.out) hb)
  have r_W_4 := Lib.hid (owf_b (r_W_3.out) hb)
  have T_4 := Lib.hid (below_trans (T_3.out) hb)
  have z_4 : w3.heap.size ≤ w4.heap.size := (by have := hb.size; (try simp at this); omega)
  have HMX := Lib.hid hmX
  have hzX : TX.length + tsum TX ≤ 4294967296 := (by have e := tsum_eq hmX; omega)
  clear hb r_A0_3 r_W_3 T_3 hlX hmX
  have r_X_4 := Lib.hid (owf_mono ho (Nat.le_refl _) (Nat.le_refl _) (Nat.le_refl _))
  clear ho
  go_wp2_with fail
  (with_reducible refine (I_JoinFlight _ _ _ _ TX key thr0 (owf_rdf (r_X_4.out)) hzX).mono ?_)
  rintro e w5 ⟨RG, aG, cG, fG, kG, hjG, rfl, ho, hb⟩
  have r_A0_5 := Lib.hid (rdf_b (r_A0_4.out) hb)
  have r_W_5 := Lib.hid (owf_b (r_W_4.out) hb)
  have r_X_5 := Lib.hid (owf_b (r_X_4.out) hb)
  have T_5 := Lib.hid (below_trans (T_4.out) hb)
  have z_5 : w4.heap.size ≤ w5.heap.size := (by have := hb.size; (try simp at this); omega)
  have HJG := Lib.hid hjG
  have hzG : RG.length + tsum RG ≤ 1048577 := (by have h : RG.length + tsum RG ≤ TX.length + tsum TX + 1 := (by have h := fjoin_sum (TX.map fl) key thr0; rw [hjG] at h; simpa [tsum] using h); have e := tsum_eq HMX.out; have e2 := len_eq HMX.out; omega)
  clear hb r_A0_4 r_W_4 r_X_4 T_4 hjG
  have r_G_5 := Lib.hid (owf_mono ho (Nat.le_refl _) (Nat.le_refl _) (Nat.le_refl _))
  clear ho
  have hq : (RG.map fl, fG, kG) = (RW.map fl, fW, kW) := by rw [← HJG.out, ← HJW.out, HMX.out, HMP.out]
  simp only [Prod.mk.injEq] at hq
  obtain ⟨hq, rfl, rfl⟩ := hq
  have HQ := Lib.hid hq
  clear hq
  go_wp2_with fail
  (with_reducible refine (L_eqFlightS_q _ _ _ _ _ _ _ RG RW true (owf_rdf (r_G_5.out)) (owf_rdf (r_W_5.out)) (by omega) (by omega) (by rw [HQ.out]; exact eqL_self _)).mono ?_)
  rintro e w6 ⟨rfl, hb⟩
  have r_A0_6 := Lib.hid (rdf_b (r_A0_5.out) hb)
  have r_W_6 := Lib.hid (owf_b (r_W_5.out) hb)
  have r_X_6 := Lib.hid (owf_b (r_X_5.out) hb)
  have r_G_6 := Lib.hid (owf_b (r_G_5.out) hb)
  have T_6 := Lib.hid (below_trans (T_5.out) hb)
  have z_6 : w5.heap.size ≤ w6.heap.size := (by have := hb.size; (try simp at this); omega)
  clear hb r_A0_5 r_W_5 r_X_5 r_G_5 T_5
  go_wp2_with fail
  (with_reducible refine (L_toFlightS _ _ _ _ ts0 (r_A0_6.out) (by omega)).mono ?_)
  rintro e w7 ⟨aZ, cZ, TZ, rfl, hlZ, hmZ, ho, hb⟩
  have r_A0_7 := Lib.hid (rdf_b (r_A0_6.out) hb)
  have r_W_7 := Lib.hid (owf_b (r_W_6.out) hb)
  have r_X_7 := Lib.hid (owf_b (r_X_6.out) hb)
  have r_G_7 := Lib.hid (owf_b (r_G_6.out) hb)
  have T_7 := Lib.hid (below_trans (T_6.out) hb)
  have z_7 : w6.heap.size ≤ w7.heap.size := (by have := hb.size; (try simp at this); omega)
  have HMZ := Lib.hid hmZ
  have hzZ : TZ.length + tsum TZ ≤ 4294967296 := (by have e := tsum_eq hmZ; omega)
  clear hb r_A0_6 r_W_6 r_X_6 r_G_6 T_6 hlZ hmZ
  have r_Z_7 := Lib.hid (owf_mono ho (Nat.le_refl _) (Nat.le_refl _) (Nat.le_refl _))
  clear ho
  go_wp2_with fail
  (with_reducible refine (L_eqFlightS_q _ _ _ _ _ _ _ TX TZ true (owf_rdf (r_X_7.out)) (owf_rdf (r_Z_7.out)) hzX hzZ (by rw [HMX.out, HMZ.out]; exact eqL_self _)).mono ?_)
  rintro e w8 ⟨rfl, hb⟩
  have r_A0_8 := Lib.hid (rdf_b (r_A0_7.out) hb)
  have r_W_8 := Lib.hid (owf_b (r_W_7.out) hb)
  have r_X_8 := Lib.hid (owf_b (r_X_7.out) hb)
  have r_G_8 := Lib.hid (owf_b (r_G_7.out) hb)
  have r_Z_8 := Lib.hid (owf_b (r_Z_7.out) hb)
  have T_8 := Lib.hid (below_trans (T_7.out) hb)
  have z_8 : w7.heap.size ≤ w8.heap.size := (by have := hb.size; (try simp at this); omega)
  clear hb r_A0_7 r_W_7 r_X_7 r_G_7 r_Z_7 T_7
  clear r_Z_8
  go_wp2_with fail
  (with_reducible refine (L_markFlightS _ _ _ _ (TX) 1 (r_X_8.out) (by omega) (by omega) (by omega)).mono ?_)
  rintro e w9 ⟨rfl, ho, hf⟩
  have r_A0_9 := Lib.hid (rdf_fr r_A0_8.out hf (by omega))
  have r_W_9 := Lib.hid (owf_fr r_W_8.out hf (by omega))
  have r_X_9 := Lib.hid ho
  have r_G_9 := Lib.hid (owf_fr r_G_8.out hf (by omega))
  have T_9 := Lib.hid (below_fr T_8.out hf (by omega) (by omega))
  have z_9 : w8.heap.size ≤ w9.heap.size := hf.size
  clear ho hf T_8 r_A0_8 r_W_8 r_X_8 r_G_8
  have n9 : decide ((1 : Int) + 2 * (TX.length : Int) + (tsum TX : Int) < 0) = false := decide_eq_false (by omega)
  go_wp2_with fail
  (with_reducible refine (L_eqFlightS_q _ _ _ _ _ _ _ RG RW true (owf_rdf (r_G_9.out)) (owf_rdf (r_W_9.out)) (by omega) (by omega) (by rw [HQ.out]; exact eqL_self _)).mono ?_)
  rintro e w10 ⟨rfl, hb⟩
  have r_A0_10 := Lib.hid (rdf_b (r_A0_9.out) hb)
  have r_W_10 := Lib.hid (owf_b (r_W_9.out) hb)
  have r_X_10 := Lib.hid (owf_b (r_X_9.out) hb)
  have r_G_10 := Lib.hid (owf_b (r_G_9.out) hb)
  have T_10 := Lib.hid (below_trans (T_9.out) hb)
  have z_10 : w9.heap.size ≤ w10.heap.size := (by have := hb.size; (try simp at this); omega)
  clear hb r_A0_9 r_W_9 r_X_9 r_G_9 T_9
  clear r_X_10
  go_wp2_with fail
  (with_reducible refine (L_markFlightS _ _ _ _ (RG) 1 (r_G_10.out) (by omega) (by omega) (by omega)).mono ?_)
  rintro e w11 ⟨rfl, ho, hf⟩
  have r_A0_11 := Lib.hid (rdf_fr r_A0_10.out hf (by omega))
  have r_W_11 := Lib.hid (owf_fr r_W_10.out hf (by omega))
  have r_G_11 := Lib.hid ho
  have T_11 := Lib.hid (below_fr T_10.out hf (by omega) (by omega))
  have z_11 : w10.heap.size ≤ w11.heap.size := hf.size
  clear ho hf T_10 r_A0_10 r_W_10 r_G_10
  have n11 : decide ((1 : Int) + 2 * (RG.length : Int) + (tsum RG : Int) < 0) = false := decide_eq_false (by omega)
  go_wp2_with fail
  (with_reducible refine (L_heldFlightS _ _ _ _ RG 1 (owf_rdf (r_G_11.out)) (by omega) (by omega) (by omega)).mono ?_)
  rintro e w111 ⟨rfl, rfl⟩
  go_wp2_with fail
  (with_reducible refine (L_toFlightS _ _ _ _ ts0 (r_A0_11.out) (by omega)).mono ?_)
  rintro e w12 ⟨aY, cY, TY, rfl, hlY, hmY, ho, hb⟩
  have r_A0_12 := Lib.hid (rdf_b (r_A0_11.out) hb)
  have r_W_12 := Lib.hid (owf_b (r_W_11.out) hb)
  have r_G_12 := Lib.hid (owf_b (r_G_11.out) hb)
  have T_12 := Lib.hid (below_trans (T_11.out) hb)
  have z_12 : w11.heap.size ≤ w12.heap.size := (by have := hb.size; (try simp at this); omega)
  have HMY := Lib.hid hmY
  have hzY : TY.length + tsum TY ≤ 4294967296 := (by have e := tsum_eq hmY; omega)
  clear hb r_A0_11 r_W_11 r_G_11 T_11 hlY hmY
  have r_Y_12 := Lib.hid (owf_mono ho (Nat.le_refl _) (Nat.le_refl _) (Nat.le_refl _))
  clear ho
  go_wp2_with fail
  (with_reducible refine (I_JoinFlight _ _ _ _ TY key thr0 (owf_rdf (r_Y_12.out)) hzY).mono ?_)
  rintro e w13 ⟨RH, aH, cH, fH, kH, hjH, rfl, ho, hb⟩
  have r_A0_13 := Lib.hid (rdf_b (r_A0_12.out) hb)
  have r_W_13 := Lib.hid (owf_b (r_W_12.out) hb)
  have r_G_13 := Lib.hid (owf_b (r_G_12.out) hb)
  have r_Y_13 := Lib.hid (owf_b (r_Y_12.out) hb)
  have T_13 := Lib.hid (below_trans (T_12.out) hb)
  have z_13 : w12.heap.size ≤ w13.heap.size := (by have := hb.size; (try simp at this); omega)
  have HJH := Lib.hid hjH
  have hzH : RH.length + tsum RH ≤ 1048577 := (by have h : RH.length + tsum RH ≤ TY.length + tsum TY + 1 := (by have h := fjoin_sum (TY.map fl) key thr0; rw [hjH] at h; simpa [tsum] using h); have e := tsum_eq HMY.out; have e2 := len_eq HMY.out; omega)
  clear hb r_A0_12 r_W_12 r_G_12 r_Y_12 T_12 hjH
  have r_H_13 := Lib.hid (owf_mono ho (Nat.le_refl _) (Nat.le_refl _) (Nat.le_refl _))
  clear ho
  have hq : (RH.map fl, fH, kH) = (RW.map fl, fG, kG) := by rw [← HJH.out, ← HJW.out, HMY.out, HMP.out]
  simp only [Prod.mk.injEq] at hq
  obtain ⟨hq, rfl, rfl⟩ := hq
  have HQ2 := Lib.hid hq
  clear hq
  clear r_Y_13
  go_wp2_with fail
  (with_reducible refine (L_eqFlightS_q _ _ _ _ _ _ _ RH RW true (owf_rdf (r_H_13.out)) (owf_rdf (r_W_13.out)) (by omega) (by omega) (by rw [HQ2.out]; exact eqL_self _)).mono ?_)
  rintro e w14 ⟨rfl, hb⟩
  have r_A0_14 := Lib.hid (rdf_b (r_A0_13.out) hb)
  have r_W_14 := Lib.hid (owf_b (r_W_13.out) hb)
  have r_G_14 := Lib.hid (owf_b (r_G_13.out) hb)
  have r_H_14 := Lib.hid (owf_b (r_H_13.out) hb)
  have T_14 := Lib.hid (below_trans (T_13.out) hb)
  have z_14 : w13.heap.size ≤ w14.heap.size := (by have := hb.size; (try simp at this); omega)
  clear hb r_A0_13 r_W_13 r_G_13 r_H_13 T_13
  go_wp2_with fail
  (with_reducible refine (L_heldFlightS _ _ _ _ RG 1 (owf_rdf (r_G_14.out)) (by omega) (by omega) (by omega)).mono ?_)
  rintro e w114 ⟨rfl, rfl⟩
  go_wp2_with fail
  go_ret
  exact ⟨rfl, (T_14.out)⟩
end Go.Proofs.Ytafpnkcdoeicgaa
