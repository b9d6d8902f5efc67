/- The law FnFlightsSame: the walk. -/
import Derived.Test.YtafpnkcdoeicgaaFlightCode
import Derived.Deep.RegionHeld3
import Derived.Deep.DrawnRows
import Derived.Deep.RegionLaw
namespace Go.Proofs.Ytafpnkcdoeicgaa
open Go.RowKit
attribute [local go_sem ↓] Go.wp_at_zero Go.wp_at_succ
set_option maxHeartbeats 4000000 in
set_option maxRecDepth 100000 in
theorem W_FnFlightsSame (w : World) (v : Value) (n : Nat) (hv : RdY w v n) (hm : n ≤ 9223372036854775807) :
    Calls Try.prog 8 #[v] w fun e w' => e = .returned (.bool true) ∧ Below w.heap.size w w' := by
  have HV := Lib.hid hv
  obtain ⟨a, cap, rfl, hcap, hnc, hr⟩ := hv
  clear hr hnc
  by_cases hbig : 1048576 < n
  · go_enter Try.func8, Try.ntmps8
    go_wp2
    go_ret
    exact ⟨rfl, Below.refl _ _⟩
  · go_enter Try.func8, Try.ntmps8
    have T_0 : Hid (Below w.heap.size w w) := Lib.hid (Below.refl _ _)
    go_wp2_with fail
    (with_reducible refine (S_DrawFlightsSame _ _ n HV.out (by omega)).mono ?_)
    rintro e w1 ⟨X, Y, a1, c1, a2, c2, rfl, hX, hY, hx, hy, hb⟩
    have T_1 := Lib.hid (below_trans (T_0.out) hb)
    have z_1 : w.heap.size ≤ w1.heap.size := (by have := hb.size; (try simp at this); omega)
    have r_x_1 := Lib.hid (rdf_mono hx (show w.heap.size ≤ _ by first | omega | (simp; done) | (simp; omega)) (Nat.le_refl _) (Nat.le_refl _))
    have r_y_1 := Lib.hid (rdf_mono hy (show w.heap.size ≤ _ by first | omega | (simp; done) | (simp; omega)) (Nat.le_refl _) (Nat.le_refl _))
    clear hb T_0 hx hy
    obtain ⟨p, hp⟩ : ∃ p, fval (X.map fl) = p := ⟨_, rfl⟩
    have HP := Lib.hid hp
    clear hp
    obtain ⟨q, hq⟩ : ∃ q, fval (Y.map fl) = q := ⟨_, rfl⟩
    have HQ := Lib.hid hq
    clear hq
    by_cases hs : eqL (X.map fl) (Y.map fl) = true
    · have HS := Lib.hid hs
      have HE : Hid (X.map fl = Y.map fl) := Lib.hid (of_decide_eq_true hs)
      clear hs
      obtain rfl : p = q := by rw [← HP.out, ← HQ.out, HE.out]
      go_wp2_with fail
      (with_reducible refine (I_FlightsSame_q _ _ _ _ _ _ _ X Y (true) (r_x_1.out) (r_y_1.out) (by omega) (by omega) (HS.out)).mono ?_)
      rintro e w2 ⟨rfl, hb⟩
      have r_x_2 := Lib.hid (rdf_b (r_x_1.out) hb)
      have r_y_2 := Lib.hid (rdf_b (r_y_1.out) hb)
      have T_2 := Lib.hid (below_trans (T_1.out) hb)
      have z_2 : w1.heap.size ≤ w2.heap.size := (by have := hb.size; (try simp at this); omega)
      clear hb r_x_1 r_y_1 T_1
      go_wp2_with fail
      (with_reducible refine (S_FlightsSame_q _ _ _ _ _ _ _ X Y (true) (r_x_2.out) (r_y_2.out) (by omega) (by omega) (HS.out)).mono ?_)
      rintro e w3 ⟨rfl, hb⟩
      have r_x_3 := Lib.hid (rdf_b (r_x_2.out) hb)
      have r_y_3 := Lib.hid (rdf_b (r_y_2.out) hb)
      have T_3 := Lib.hid (below_trans (T_2.out) hb)
      have z_3 : w2.heap.size ≤ w3.heap.size := (by have := hb.size; (try simp at this); omega)
      clear hb r_x_2 r_y_2 T_2
      go_wp2_with fail
      (with_reducible refine (I_FlightsSame_q _ _ _ _ _ _ _ Y X (true) (r_y_3.out) (r_x_3.out) (by omega) (by omega) (by rw [HE.out]; exact eqL_self _)).mono ?_)
      rintro e w4 ⟨rfl, hb⟩
      have r_x_4 := Lib.hid (rdf_b (r_x_3.out) hb)
      have r_y_4 := Lib.hid (rdf_b (r_y_3.out) hb)
      have T_4 := Lib.hid (below_trans (T_3.out) hb)
      have z_4 : w3.heap.size ≤ w4.heap.size := (by have := hb.size; (try simp at this); omega)
      clear hb r_x_3 r_y_3 T_3
      go_wp2_with fail
      (with_reducible refine (I_FlightsSame_q _ _ _ _ _ _ _ X X (true) (r_x_4.out) (r_x_4.out) (by omega) (by omega) (eqL_self _)).mono ?_)
      rintro e w5 ⟨rfl, hb⟩
      have r_x_5 := Lib.hid (rdf_b (r_x_4.out) hb)
      have r_y_5 := Lib.hid (rdf_b (r_y_4.out) hb)
      have T_5 := Lib.hid (below_trans (T_4.out) hb)
      have z_5 : w4.heap.size ≤ w5.heap.size := (by have := hb.size; (try simp at this); omega)
      clear hb r_x_4 r_y_4 T_4
      go_wp2_with fail
      (with_reducible refine (I_FlightsValid_q _ _ _ _ X p (r_x_5.out) (by omega) (HP.out)).mono ?_)
      rintro e w6 ⟨rfl, hb⟩
      have r_x_6 := Lib.hid (rdf_b (r_x_5.out) hb)
      have r_y_6 := Lib.hid (rdf_b (r_y_5.out) hb)
      have T_6 := Lib.hid (below_trans (T_5.out) hb)
      have z_6 : w5.heap.size ≤ w6.heap.size := (by have := hb.size; (try simp at this); omega)
      clear hb r_x_5 r_y_5 T_5
      go_wp2_with fail
      (with_reducible refine (I_FlightsValid_q _ _ _ _ Y p (r_y_6.out) (by omega) (HQ.out)).mono ?_)
      rintro e w7 ⟨rfl, hb⟩
      have r_x_7 := Lib.hid (rdf_b (r_x_6.out) hb)
      have r_y_7 := Lib.hid (rdf_b (r_y_6.out) hb)
      have T_7 := Lib.hid (below_trans (T_6.out) hb)
      have z_7 : w6.heap.size ≤ w7.heap.size := (by have := hb.size; (try simp at this); omega)
      clear hb r_x_6 r_y_6 T_6
      go_wp2_with fail
      (with_reducible refine (I_FlightsValid_q _ _ _ _ Y p (r_y_7.out) (by omega) (HQ.out)).mono ?_)
      rintro e w8 ⟨rfl, hb⟩
      have r_x_8 := Lib.hid (rdf_b (r_x_7.out) hb)
      have r_y_8 := Lib.hid (rdf_b (r_y_7.out) hb)
      have T_8 := Lib.hid (below_trans (T_7.out) hb)
      have z_8 : w7.heap.size ≤ w8.heap.size := (by have := hb.size; (try simp at this); omega)
      clear hb r_x_7 r_y_7 T_7
      go_wp2_with fail
      (with_reducible refine (S_FlightsValid_q _ _ _ _ Y p (r_y_8.out) (by omega) (HQ.out)).mono ?_)
      rintro e w9 ⟨rfl, hb⟩
      have r_x_9 := Lib.hid (rdf_b (r_x_8.out) hb)
      have r_y_9 := Lib.hid (rdf_b (r_y_8.out) hb)
      have T_9 := Lib.hid (below_trans (T_8.out) hb)
      have z_9 : w8.heap.size ≤ w9.heap.size := (by have := hb.size; (try simp at this); omega)
      clear hb r_x_8 r_y_8 T_8
      go_wp2_with fail
      go_ret
      exact ⟨rfl, (T_9.out)⟩
    · have HS : Hid (eqL (X.map fl) (Y.map fl) = false) := Lib.hid (by simpa using hs)
      clear hs
      go_wp2_with fail
      (with_reducible refine (I_FlightsSame_q _ _ _ _ _ _ _ X Y (false) (r_x_1.out) (r_y_1.out) (by omega) (by omega) (HS.out)).mono ?_)
      rintro e w2 ⟨rfl, hb⟩
      have r_x_2 := Lib.hid (rdf_b (r_x_1.out) hb)
      have r_y_2 := Lib.hid (rdf_b (r_y_1.out) hb)
      have T_2 := Lib.hid (below_trans (T_1.out) hb)
      have z_2 : w1.heap.size ≤ w2.heap.size := (by have := hb.size; (try simp at this); omega)
      clear hb r_x_1 r_y_1 T_1
      go_wp2_with fail
      (with_reducible refine (S_FlightsSame_q _ _ _ _ _ _ _ X Y (false) (r_x_2.out) (r_y_2.out) (by omega) (by omega) (HS.out)).mono ?_)
      rintro e w3 ⟨rfl, hb⟩
      have r_x_3 := Lib.hid (rdf_b (r_x_2.out) hb)
      have r_y_3 := Lib.hid (rdf_b (r_y_2.out) hb)
      have T_3 := Lib.hid (below_trans (T_2.out) hb)
      have z_3 : w2.heap.size ≤ w3.heap.size := (by have := hb.size; (try simp at this); omega)
      clear hb r_x_2 r_y_2 T_2
      go_wp2_with fail
      (with_reducible refine (I_FlightsSame_q _ _ _ _ _ _ _ Y X (false) (r_y_3.out) (r_x_3.out) (by omega) (by omega) (by have h := HS.out; unfold eqL at h ⊢; exact decide_eq_false (fun e => absurd e.symm (of_decide_eq_false h)))).mono ?_)
      rintro e w4 ⟨rfl, hb⟩
      have r_x_4 := Lib.hid (rdf_b (r_x_3.out) hb)
      have r_y_4 := Lib.hid (rdf_b (r_y_3.out) hb)
      have T_4 := Lib.hid (below_trans (T_3.out) hb)
      have z_4 : w3.heap.size ≤ w4.heap.size := (by have := hb.size; (try simp at this); omega)
      clear hb r_x_3 r_y_3 T_3
      go_wp2_with fail
      (with_reducible refine (I_FlightsSame_q _ _ _ _ _ _ _ X X (true) (r_x_4.out) (r_x_4.out) (by omega) (by omega) (eqL_self _)).mono ?_)
      rintro e w5 ⟨rfl, hb⟩
      have r_x_5 := Lib.hid (rdf_b (r_x_4.out) hb)
      have r_y_5 := Lib.hid (rdf_b (r_y_4.out) hb)
      have T_5 := Lib.hid (below_trans (T_4.out) hb)
      have z_5 : w4.heap.size ≤ w5.heap.size := (by have := hb.size; (try simp at this); omega)
      clear hb r_x_4 r_y_4 T_4
      go_wp2_with fail
      (with_reducible refine (I_FlightsValid_q _ _ _ _ Y q (r_y_5.out) (by omega) (HQ.out)).mono ?_)
      rintro e w6 ⟨rfl, hb⟩
      have r_x_6 := Lib.hid (rdf_b (r_x_5.out) hb)
      have r_y_6 := Lib.hid (rdf_b (r_y_5.out) hb)
      have T_6 := Lib.hid (below_trans (T_5.out) hb)
      have z_6 : w5.heap.size ≤ w6.heap.size := (by have := hb.size; (try simp at this); omega)
      clear hb r_x_5 r_y_5 T_5
      go_wp2_with fail
      (with_reducible refine (S_FlightsValid_q _ _ _ _ Y q (r_y_6.out) (by omega) (HQ.out)).mono ?_)
      rintro e w7 ⟨rfl, hb⟩
      have r_x_7 := Lib.hid (rdf_b (r_x_6.out) hb)
      have r_y_7 := Lib.hid (rdf_b (r_y_6.out) hb)
      have T_7 := Lib.hid (below_trans (T_6.out) hb)
      have z_7 : w6.heap.size ≤ w7.heap.size := (by have := hb.size; (try simp at this); omega)
      clear hb r_x_6 r_y_6 T_6
      go_wp2_with fail
      go_ret
      exact ⟨rfl, (T_7.out)⟩
end Go.Proofs.Ytafpnkcdoeicgaa
