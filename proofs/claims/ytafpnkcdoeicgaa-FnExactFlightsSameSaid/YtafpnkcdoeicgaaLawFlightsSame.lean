/- The law FnExactFlightsSame: the walk. -/
import Derived.Test.YtafpnkcdoeicgaaFlightSame
namespace Go.Proofs.Ytafpnkcdoeicgaa
open Go.RowKit
set_option maxHeartbeats 4000000 in
set_option maxRecDepth 100000 in
theorem W_FnExactFlightsSame (w : World) (v0 : Value) (ts0 : List FT) (v1 : Value) (ts1 : List FT) (hr0 : RdF w 0 w.heap.size v0 ts0) (hn0 : ts0.length ≤ 9223372036854775807) (hm0 : ∀ t ∈ ts0, t.2.2.1.length ≤ 9223372036854775807) (hr1 : RdF w 0 w.heap.size v1 ts1) (hn1 : ts1.length ≤ 9223372036854775807) (hm1 : ∀ t ∈ ts1, t.2.2.1.length ≤ 9223372036854775807) :
    Calls Try.prog 3 #[v0, v1] w fun e w' => e = .returned (.bool true) ∧ Below w.heap.size w w' := by
  have r_A0_0 := Lib.hid hr0
  clear hr0
  have r_A1_0 := Lib.hid hr1
  clear hr1
  by_cases hb0 : (1048576 : Int) < (ts0.length + tsum ts0 : Nat)
  · go_enter Try.func3, Try.ntmps3
    have T_0 : Hid (Below w.heap.size w w) := Lib.hid (Below.refl _ _)
    go_wp2_with fail
    (with_reducible refine (L_szFlightS_no _ _ _ _ ts0 (1048576) (r_A0_0.out) hm0 hn0 hb0 (by omega) (by omega)).mono ?_)
    rintro e w1 ⟨rfl, hb⟩
    have r_A0_1 := Lib.hid (rdf_b (r_A0_0.out) hb)
    have r_A1_1 := Lib.hid (rdf_b (r_A1_0.out) hb)
    have T_1 := Lib.hid (below_trans (T_0.out) hb)
    have z_1 : w.heap.size ≤ w1.heap.size := (by have := hb.size; (try simp at this); omega)
    clear hb r_A0_0 r_A1_0 T_0
    go_wp2_with fail
    go_ret
    exact ⟨rfl, (T_1.out)⟩
  by_cases hb1 : (1048576 - ((ts0.length : Int) + (tsum ts0 : Int)) : Int) < (ts1.length + tsum ts1 : Nat)
  · go_enter Try.func3, Try.ntmps3
    have T_0 : Hid (Below w.heap.size w w) := Lib.hid (Below.refl _ _)
    go_wp2_with fail
    (with_reducible refine (L_szFlightS_ok _ _ _ _ ts0 (1048576) (r_A0_0.out) (by omega) (by omega)).mono ?_)
    rintro e w1 ⟨rfl, hb⟩
    have r_A0_1 := Lib.hid (rdf_b (r_A0_0.out) hb)
    have r_A1_1 := Lib.hid (rdf_b (r_A1_0.out) hb)
    have T_1 := Lib.hid (below_trans (T_0.out) hb)
    have z_1 : w.heap.size ≤ w1.heap.size := (by have := hb.size; (try simp at this); omega)
    clear hb r_A0_0 r_A1_0 T_0
    go_wp2_with fail
    (with_reducible refine (L_szFlightS_no _ _ _ _ ts1 (1048576 - ((ts0.length : Int) + (tsum ts0 : Int))) (r_A1_1.out) hm1 hn1 hb1 (by omega) (by omega)).mono ?_)
    rintro e w2 ⟨rfl, hb⟩
    have r_A0_2 := Lib.hid (rdf_b (r_A0_1.out) hb)
    have r_A1_2 := Lib.hid (rdf_b (r_A1_1.out) hb)
    have T_2 := Lib.hid (below_trans (T_1.out) hb)
    have z_2 : w1.heap.size ≤ w2.heap.size := (by have := hb.size; (try simp at this); omega)
    clear hb r_A0_1 r_A1_1 T_1
    go_wp2_with fail
    go_ret
    exact ⟨rfl, (T_2.out)⟩
  clear hm0 hm1
  go_enter Try.func3, Try.ntmps3
  have T_0 : Hid (Below w.heap.size w w) := Lib.hid (Below.refl _ _)
  go_wp2_with fail
  (with_reducible refine (L_szFlightS_ok _ _ _ _ ts0 (1048576) (r_A0_0.out) (by omega) (by omega)).mono ?_)
  rintro e w1 ⟨rfl, hb⟩
  have r_A0_1 := Lib.hid (rdf_b (r_A0_0.out) hb)
  have r_A1_1 := Lib.hid (rdf_b (r_A1_0.out) hb)
  have T_1 := Lib.hid (below_trans (T_0.out) hb)
  have z_1 : w.heap.size ≤ w1.heap.size := (by have := hb.size; (try simp at this); omega)
  clear hb r_A0_0 r_A1_0 T_0
  go_wp2_with fail
  (with_reducible refine (L_szFlightS_ok _ _ _ _ ts1 (1048576 - ((ts0.length : Int) + (tsum ts0 : Int))) (r_A1_1.out) (by omega) (by omega)).mono ?_)
  rintro e w2 ⟨rfl, hb⟩
  have r_A0_2 := Lib.hid (rdf_b (r_A0_1.out) hb)
  have r_A1_2 := Lib.hid (rdf_b (r_A1_1.out) hb)
  have T_2 := Lib.hid (below_trans (T_1.out) hb)
  have z_2 : w1.heap.size ≤ w2.heap.size := (by have := hb.size; (try simp at this); omega)
  clear hb r_A0_1 r_A1_1 T_1
  obtain ⟨b, hbb⟩ : ∃ b, eqL (ts0.map fl) (ts1.map fl) = b := ⟨_, rfl⟩
  have HBB := Lib.hid hbb
  clear hbb
  go_wp2_with fail
  (with_reducible refine (L_toFlightS _ _ _ _ ts0 (r_A0_2.out) (by omega)).mono ?_)
  rintro e w3 ⟨aP, cP, TP, rfl, hlP, hmP, ho, hb⟩
  have r_A0_3 := Lib.hid (rdf_b (r_A0_2.out) hb)
  have r_A1_3 := Lib.hid (rdf_b (r_A1_2.out) hb)
  have T_3 := Lib.hid (below_trans (T_2.out) hb)
  have z_3 : w2.heap.size ≤ w3.heap.size := (by have := hb.size; (try simp at this); omega)
  have r_P_3 := Lib.hid (rdf_mono (owf_rdf ho) (show w2.heap.size ≤ _ by first | omega | (simp; done) | (simp; omega)) (Nat.le_refl _) (Nat.le_refl _))
  have HMP := Lib.hid hmP
  have hzP : TP.length + tsum TP ≤ 4294967296 := (by have e := tsum_eq hmP; omega)
  clear hb r_A0_2 r_A1_2 T_2 ho hlP hmP
  go_wp2_with fail
  (with_reducible refine (L_toFlightS _ _ _ _ ts1 (r_A1_3.out) (by omega)).mono ?_)
  rintro e w4 ⟨aQ, cQ, TQ, rfl, hlQ, hmQ, ho, hb⟩
  have r_A0_4 := Lib.hid (rdf_b (r_A0_3.out) hb)
  have r_A1_4 := Lib.hid (rdf_b (r_A1_3.out) hb)
  have r_P_4 := Lib.hid (rdf_b (r_P_3.out) hb)
  have T_4 := Lib.hid (below_trans (T_3.out) hb)
  have z_4 : w3.heap.size ≤ w4.heap.size := (by have := hb.size; (try simp at this); omega)
  have r_Q_4 := Lib.hid (rdf_mono (owf_rdf ho) (show w3.heap.size ≤ _ by first | omega | (simp; done) | (simp; omega)) (Nat.le_refl _) (Nat.le_refl _))
  have HMQ := Lib.hid hmQ
  have hzQ : TQ.length + tsum TQ ≤ 4294967296 := (by have e := tsum_eq hmQ; omega)
  clear hb r_A0_3 r_A1_3 r_P_3 T_3 ho hlQ hmQ
  go_wp2_with fail
  (with_reducible refine (S_FlightsSame_q _ _ _ _ _ _ _ TP TQ (b) (r_P_4.out) (r_Q_4.out) hzP hzQ (by rw [HMP.out, HMQ.out]; exact HBB.out)).mono ?_)
  rintro e w5 ⟨rfl, hb⟩
  have r_A0_5 := Lib.hid (rdf_b (r_A0_4.out) hb)
  have r_A1_5 := Lib.hid (rdf_b (r_A1_4.out) hb)
  have r_P_5 := Lib.hid (rdf_b (r_P_4.out) hb)
  have r_Q_5 := Lib.hid (rdf_b (r_Q_4.out) hb)
  have T_5 := Lib.hid (below_trans (T_4.out) hb)
  have z_5 : w4.heap.size ≤ w5.heap.size := (by have := hb.size; (try simp at this); omega)
  clear hb r_A0_4 r_A1_4 r_P_4 r_Q_4 T_4
  clear r_P_5 r_Q_5
  go_wp2_with fail
  (with_reducible refine (L_toFlightS _ _ _ _ ts0 (r_A0_5.out) (by omega)).mono ?_)
  rintro e w6 ⟨aX, cX, TX, rfl, hlX, hmX, ho, hb⟩
  have r_A0_6 := Lib.hid (rdf_b (r_A0_5.out) hb)
  have r_A1_6 := Lib.hid (rdf_b (r_A1_5.out) hb)
  have T_6 := Lib.hid (below_trans (T_5.out) hb)
  have z_6 : w5.heap.size ≤ w6.heap.size := (by have := hb.size; (try simp at this); omega)
  have r_X_6 := Lib.hid (rdf_mono (owf_rdf ho) (show w5.heap.size ≤ _ by first | omega | (simp; done) | (simp; omega)) (Nat.le_refl _) (Nat.le_refl _))
  have HMX := Lib.hid hmX
  have hzX : TX.length + tsum TX ≤ 4294967296 := (by have e := tsum_eq hmX; omega)
  clear hb r_A0_5 r_A1_5 T_5 ho hlX hmX
  go_wp2_with fail
  (with_reducible refine (L_toFlightS _ _ _ _ ts1 (r_A1_6.out) (by omega)).mono ?_)
  rintro e w7 ⟨aY, cY, TY, rfl, hlY, hmY, ho, hb⟩
  have r_A0_7 := Lib.hid (rdf_b (r_A0_6.out) hb)
  have r_A1_7 := Lib.hid (rdf_b (r_A1_6.out) hb)
  have r_X_7 := Lib.hid (rdf_b (r_X_6.out) hb)
  have T_7 := Lib.hid (below_trans (T_6.out) hb)
  have z_7 : w6.heap.size ≤ w7.heap.size := (by have := hb.size; (try simp at this); omega)
  have r_Y_7 := Lib.hid (rdf_mono (owf_rdf ho) (show w6.heap.size ≤ _ by first | omega | (simp; done) | (simp; omega)) (Nat.le_refl _) (Nat.le_refl _))
  have HMY := Lib.hid hmY
  have hzY : TY.length + tsum TY ≤ 4294967296 := (by have e := tsum_eq hmY; omega)
  clear hb r_A0_6 r_A1_6 r_X_6 T_6 ho hlY hmY
  go_wp2_with fail
  (with_reducible refine (I_FlightsSame_q _ _ _ _ _ _ _ TX TY (b) (r_X_7.out) (r_Y_7.out) hzX hzY (by rw [HMX.out, HMY.out]; exact HBB.out)).mono ?_)
  rintro e w8 ⟨rfl, hb⟩
  have r_A0_8 := Lib.hid (rdf_b (r_A0_7.out) hb)
  have r_A1_8 := Lib.hid (rdf_b (r_A1_7.out) hb)
  have r_X_8 := Lib.hid (rdf_b (r_X_7.out) hb)
  have r_Y_8 := Lib.hid (rdf_b (r_Y_7.out) hb)
  have T_8 := Lib.hid (below_trans (T_7.out) hb)
  have z_8 : w7.heap.size ≤ w8.heap.size := (by have := hb.size; (try simp at this); omega)
  clear hb r_A0_7 r_A1_7 r_X_7 r_Y_7 T_7
  go_wp2_with fail
  (with_reducible refine (L_toFlightS _ _ _ _ ts0 (r_A0_8.out) (by omega)).mono ?_)
  rintro e w9 ⟨aZ, cZ, TZ, rfl, hlZ, hmZ, ho, hb⟩
  have r_A0_9 := Lib.hid (rdf_b (r_A0_8.out) hb)
  have r_A1_9 := Lib.hid (rdf_b (r_A1_8.out) hb)
  have r_X_9 := Lib.hid (rdf_b (r_X_8.out) hb)
  have r_Y_9 := Lib.hid (rdf_b (r_Y_8.out) hb)
  have T_9 := Lib.hid (below_trans (T_8.out) hb)
  have z_9 : w8.heap.size ≤ w9.heap.size := (by have := hb.size; (try simp at this); omega)
  have r_Z_9 := Lib.hid (rdf_mono (owf_rdf ho) (show w8.heap.size ≤ _ by first | omega | (simp; done) | (simp; omega)) (Nat.le_refl _) (Nat.le_refl _))
  have HMZ := Lib.hid hmZ
  have hzZ : TZ.length + tsum TZ ≤ 4294967296 := (by have e := tsum_eq hmZ; omega)
  clear hb r_A0_8 r_A1_8 r_X_8 r_Y_8 T_8 ho hlZ hmZ
  go_wp2_with fail
  (with_reducible refine (L_eqFlightS_q _ _ _ _ _ _ _ TX TZ (true) (r_X_9.out) (r_Z_9.out) hzX hzZ (by rw [HMX.out, HMZ.out]; exact eqL_self _)).mono ?_)
  rintro e w10 ⟨rfl, hb⟩
  have r_A0_10 := Lib.hid (rdf_b (r_A0_9.out) hb)
  have r_A1_10 := Lib.hid (rdf_b (r_A1_9.out) hb)
  have r_X_10 := Lib.hid (rdf_b (r_X_9.out) hb)
  have r_Y_10 := Lib.hid (rdf_b (r_Y_9.out) hb)
  have r_Z_10 := Lib.hid (rdf_b (r_Z_9.out) hb)
  have T_10 := Lib.hid (below_trans (T_9.out) hb)
  have z_10 : w9.heap.size ≤ w10.heap.size := (by have := hb.size; (try simp at this); omega)
  clear hb r_A0_9 r_A1_9 r_X_9 r_Y_9 r_Z_9 T_9
  go_wp2_with fail
  (with_reducible refine (L_toFlightS _ _ _ _ ts1 (r_A1_10.out) (by omega)).mono ?_)
  rintro e w11 ⟨aV, cV, TV, rfl, hlV, hmV, ho, hb⟩
  have r_A0_11 := Lib.hid (rdf_b (r_A0_10.out) hb)
  have r_A1_11 := Lib.hid (rdf_b (r_A1_10.out) hb)
  have r_X_11 := Lib.hid (rdf_b (r_X_10.out) hb)
  have r_Y_11 := Lib.hid (rdf_b (r_Y_10.out) hb)
  have r_Z_11 := Lib.hid (rdf_b (r_Z_10.out) hb)
  have T_11 := Lib.hid (below_trans (T_10.out) hb)
  have z_11 : w10.heap.size ≤ w11.heap.size := (by have := hb.size; (try simp at this); omega)
  have r_V_11 := Lib.hid (rdf_mono (owf_rdf ho) (show w10.heap.size ≤ _ by first | omega | (simp; done) | (simp; omega)) (Nat.le_refl _) (Nat.le_refl _))
  have HMV := Lib.hid hmV
  have hzV : TV.length + tsum TV ≤ 4294967296 := (by have e := tsum_eq hmV; omega)
  clear hb r_A0_10 r_A1_10 r_X_10 r_Y_10 r_Z_10 T_10 ho hlV hmV
  go_wp2_with fail
  (with_reducible refine (L_eqFlightS_q _ _ _ _ _ _ _ TY TV (true) (r_Y_11.out) (r_V_11.out) hzY hzV (by rw [HMY.out, HMV.out]; exact eqL_self _)).mono ?_)
  rintro e w12 ⟨rfl, hb⟩
  have r_A0_12 := Lib.hid (rdf_b (r_A0_11.out) hb)
  have r_A1_12 := Lib.hid (rdf_b (r_A1_11.out) hb)
  have r_X_12 := Lib.hid (rdf_b (r_X_11.out) hb)
  have r_Y_12 := Lib.hid (rdf_b (r_Y_11.out) hb)
  have r_Z_12 := Lib.hid (rdf_b (r_Z_11.out) hb)
  have r_V_12 := Lib.hid (rdf_b (r_V_11.out) hb)
  have T_12 := Lib.hid (below_trans (T_11.out) hb)
  have z_12 : w11.heap.size ≤ w12.heap.size := (by have := hb.size; (try simp at this); omega)
  clear hb r_A0_11 r_A1_11 r_X_11 r_Y_11 r_Z_11 r_V_11 T_11
  go_wp2_with fail
  go_ret
  exact ⟨rfl, (T_12.out)⟩
end Go.Proofs.Ytafpnkcdoeicgaa
