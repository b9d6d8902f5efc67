/- The law FnExactFlightsValid: the walk. -/
import Derived.Test.YtafpnkcdoeicgaaFlightValid
namespace Go.Proofs.Ytafpnkcdoeicgaa
open Go.RowKit
set_option maxHeartbeats 4000000 in
set_option maxRecDepth 100000 in
theorem W_FnExactFlightsValid (w : World) (v0 : Value) (ts0 : List FT) (hr0 : RdF w 0 w.heap.size v0 ts0) (hn0 : ts0.length ≤ 9223372036854775807) (hm0 : ∀ t ∈ ts0, t.2.2.1.length ≤ 9223372036854775807) :
    Calls Try.prog 4 #[v0] w fun e w' => e = .returned (.bool true) ∧ Below w.heap.size w w' := by
  have r_A0_0 := Lib.hid hr0
  clear hr0
  by_cases hb0 : (1048576 : Int) < (ts0.length + tsum ts0 : Nat)
  · go_enter Try.func4, Try.ntmps4
    have T_0 : Hid (Below w.heap.size w w) := Lib.hid (Below.refl _ _)
    go_wp2_with fail
    (with_reducible refine (L_szFlightS_no _ _ _ _ ts0 (1048576) (r_A0_0.out) hm0 hn0 hb0 (by omega) (by omega)).mono ?_)
    rintro e w1 ⟨rfl, hb⟩
    have r_A0_1 := Lib.hid (rdf_b (r_A0_0.out) hb)
    have T_1 := Lib.hid (below_trans (T_0.out) hb)
    have z_1 : w.heap.size ≤ w1.heap.size := (by have := hb.size; (try simp at this); omega)
    clear hb r_A0_0 T_0
    go_wp2_with fail
    go_ret
    exact ⟨rfl, (T_1.out)⟩
  clear hm0
  go_enter Try.func4, Try.ntmps4
  have T_0 : Hid (Below w.heap.size w w) := Lib.hid (Below.refl _ _)
  go_wp2_with fail
  (with_reducible refine (L_szFlightS_ok _ _ _ _ ts0 (1048576) (r_A0_0.out) (by omega) (by omega)).mono ?_)
  rintro e w1 ⟨rfl, hb⟩
  have r_A0_1 := Lib.hid (rdf_b (r_A0_0.out) hb)
  have T_1 := Lib.hid (below_trans (T_0.out) hb)
  have z_1 : w.heap.size ≤ w1.heap.size := (by have := hb.size; (try simp at this); omega)
  clear hb r_A0_0 T_0
  obtain ⟨b, hbb⟩ : ∃ b, fval (ts0.map fl) = b := ⟨_, rfl⟩
  have HBB := Lib.hid hbb
  clear hbb
  go_wp2_with fail
  (with_reducible refine (L_toFlightS _ _ _ _ ts0 (r_A0_1.out) (by omega)).mono ?_)
  rintro e w2 ⟨aP, cP, TP, rfl, hlP, hmP, ho, hb⟩
  have r_A0_2 := Lib.hid (rdf_b (r_A0_1.out) hb)
  have T_2 := Lib.hid (below_trans (T_1.out) hb)
  have z_2 : w1.heap.size ≤ w2.heap.size := (by have := hb.size; (try simp at this); omega)
  have r_P_2 := Lib.hid (rdf_mono (owf_rdf ho) (show w1.heap.size ≤ _ by first | omega | (simp; done) | (simp; omega)) (Nat.le_refl _) (Nat.le_refl _))
  have HMP := Lib.hid hmP
  have hzP : TP.length + tsum TP ≤ 4294967296 := (by have e := tsum_eq hmP; omega)
  clear hb r_A0_1 T_1 ho hlP hmP
  go_wp2_with fail
  (with_reducible refine (S_FlightsValid_q _ _ _ _ TP b (r_P_2.out) hzP (by rw [HMP.out]; exact HBB.out)).mono ?_)
  rintro e w3 ⟨rfl, hb⟩
  have r_A0_3 := Lib.hid (rdf_b (r_A0_2.out) hb)
  have r_P_3 := Lib.hid (rdf_b (r_P_2.out) hb)
  have T_3 := Lib.hid (below_trans (T_2.out) hb)
  have z_3 : w2.heap.size ≤ w3.heap.size := (by have := hb.size; (try simp at this); omega)
  clear hb r_A0_2 r_P_2 T_2
  clear r_P_3
  go_wp2_with fail
  (with_reducible refine (L_toFlightS _ _ _ _ ts0 (r_A0_3.out) (by omega)).mono ?_)
  rintro e w4 ⟨aX, cX, TX, rfl, hlX, hmX, ho, hb⟩
  have r_A0_4 := Lib.hid (rdf_b (r_A0_3.out) hb)
  have T_4 := Lib.hid (below_trans (T_3.out) hb)
  have z_4 : w3.heap.size ≤ w4.heap.size := (by have := hb.size; (try simp at this); omega)
  have r_X_4 := Lib.hid (rdf_mono (owf_rdf ho) (show w3.heap.size ≤ _ by first | omega | (simp; done) | (simp; omega)) (Nat.le_refl _) (Nat.le_refl _))
  have HMX := Lib.hid hmX
  have hzX : TX.length + tsum TX ≤ 4294967296 := (by have e := tsum_eq hmX; omega)
  clear hb r_A0_3 T_3 ho hlX hmX
  go_wp2_with fail
  (with_reducible refine (I_FlightsValid_q _ _ _ _ TX b (r_X_4.out) hzX (by rw [HMX.out]; exact HBB.out)).mono ?_)
  rintro e w5 ⟨rfl, hb⟩
  have r_A0_5 := Lib.hid (rdf_b (r_A0_4.out) hb)
  have r_X_5 := Lib.hid (rdf_b (r_X_4.out) hb)
  have T_5 := Lib.hid (below_trans (T_4.out) hb)
  have z_5 : w4.heap.size ≤ w5.heap.size := (by have := hb.size; (try simp at this); omega)
  clear hb r_A0_4 r_X_4 T_4
  go_wp2_with fail
  (with_reducible refine (L_toFlightS _ _ _ _ ts0 (r_A0_5.out) (by omega)).mono ?_)
  rintro e w6 ⟨aZ, cZ, TZ, rfl, hlZ, hmZ, ho, hb⟩
  have r_A0_6 := Lib.hid (rdf_b (r_A0_5.out) hb)
  have r_X_6 := Lib.hid (rdf_b (r_X_5.out) hb)
  have T_6 := Lib.hid (below_trans (T_5.out) hb)
  have z_6 : w5.heap.size ≤ w6.heap.size := (by have := hb.size; (try simp at this); omega)
  have r_Z_6 := Lib.hid (rdf_mono (owf_rdf ho) (show w5.heap.size ≤ _ by first | omega | (simp; done) | (simp; omega)) (Nat.le_refl _) (Nat.le_refl _))
  have HMZ := Lib.hid hmZ
  have hzZ : TZ.length + tsum TZ ≤ 4294967296 := (by have e := tsum_eq hmZ; omega)
  clear hb r_A0_5 r_X_5 T_5 ho hlZ hmZ
  go_wp2_with fail
  (with_reducible refine (L_eqFlightS_q _ _ _ _ _ _ _ TX TZ (true) (r_X_6.out) (r_Z_6.out) hzX hzZ (by rw [HMX.out, HMZ.out]; exact eqL_self _)).mono ?_)
  rintro e w7 ⟨rfl, hb⟩
  have r_A0_7 := Lib.hid (rdf_b (r_A0_6.out) hb)
  have r_X_7 := Lib.hid (rdf_b (r_X_6.out) hb)
  have r_Z_7 := Lib.hid (rdf_b (r_Z_6.out) hb)
  have T_7 := Lib.hid (below_trans (T_6.out) hb)
  have z_7 : w6.heap.size ≤ w7.heap.size := (by have := hb.size; (try simp at this); omega)
  clear hb r_A0_6 r_X_6 r_Z_6 T_6
  go_wp2_with fail
  go_ret
  exact ⟨rfl, (T_7.out)⟩
end Go.Proofs.Ytafpnkcdoeicgaa
