/- The contract of impl.JoinFlight. -/
import Derived.Test.YtafpnkcdoeicgaaFlightIns
import Derived.Test.YtafpnkcdoeicgaaFlightDraw
import Derived.Deep.RegionHeld3
import Derived.Deep.RegionLaw
import Derived.Deep.DrawnRows
namespace Go.Proofs.Ytafpnkcdoeicgaa
open Go.RowKit
attribute [local go_sem ↓] Go.wp_at_zero Go.wp_at_succ

theorem alloc_at (w : World) (o : Obj) : (w.alloc o).heap[w.heap.size]? = some o := Array.getElem?_push_size
theorem ins_sum (Ts : List FT) (j : Nat) (key t : Int) : (Ts.take j ++ [((key, t, [], Value.slice none 0 0) : FT)] ++ Ts.drop j).length + tsum (Ts.take j ++ [((key, t, [], Value.slice none 0 0) : FT)] ++ Ts.drop j) ≤ Ts.length + tsum Ts + 1 := by
  have h1 := fsum_append ((Ts.take j).map fl) ((Ts.drop j).map fl)
  rw [← List.map_append, List.take_append_drop] at h1
  have h2 : (Ts.take j).length + (Ts.drop j).length = Ts.length := by rw [← List.length_append, List.take_append_drop]
  unfold tsum
  rw [List.map_append, List.map_append, fsum_append, fsum_append]
  simp only [List.length_append, List.length_singleton, List.map_cons, List.map_nil, fsum, List.length_nil]
  omega
set_option maxHeartbeats 4000000 in
set_option maxRecDepth 100000 in
theorem I_JoinFlight (w : World) (B C : Nat) (v : Value) (ts : List FT) (key t : Int) (hr : RdF w B C v ts) (hl : ts.length + tsum ts ≤ 4294967296) :
    Calls Try.prog 20 #[v, .int .i64 key, .int .i64 t] w (Joined w (ts.map fl) key t) := by
  obtain ⟨i0, hi, hz0, hz1, hz2⟩ := info_parts info3
  by_cases hno : joinOk (ts.map fl) key t = true
  rotate_left
  · have hno2 : joinOk (ts.map fl) key t = false := by simpa using hno
    refine (I_JoinFlight_no w B C v ts key t hr hl hno2).mono ?_
    rintro e w' ⟨rfl, hb⟩
    exact ⟨[], none, 0, false, false, fjoin_no hno2, rfl, owf_mono (owf_nil w' _ _) (Nat.le_refl _) (Nat.zero_le _) (Nat.le_refl _), hb⟩
  obtain ⟨hv, ht, h1b, h2b, hb9⟩ := joinOk_in hno
  have HOK := Lib.hid hno
  have HV := Lib.hid hv
  have HT := Lib.hid ht
  have HB9 := Lib.hid hb9
  have hl6 := fval_sum hv
  have hl7 : ts.length + tsum ts ≤ 6 := by simpa [tsum] using hl6
  have r_A_0 := Lib.hid hr
  clear hr hno hv ht hb9 hl6
  go_enter Try.func20, Try.ntmps20
  have T_0 : Hid (Below w.heap.size w w) := Lib.hid (Below.refl _ _)
  go_wp2_with fail
  (with_reducible refine (I_FlightsValid_q _ _ _ _ ts _ (r_A_0.out) hl HV.out).mono ?_)
  rintro e w1 ⟨rfl, hb⟩
  have r_A_1 := Lib.hid (rdf_b (r_A_0.out) hb)
  have T_1 := Lib.hid (below_trans (T_0.out) hb)
  have z_1 : w.heap.size ≤ w1.heap.size := (by have := hb.size; (try simp at this); omega)
  clear hb r_A_0 T_0
  go_wp2_with fail
  (with_reducible refine (I_isThread _ t).mono ?_)
  rintro e w9 ⟨rfl, rfl⟩
  rw [HT.out]
  go_wp2_with fail
  (with_reducible refine (I_flightThreads _ _ _ _ ts (r_A_1.out) hl).mono ?_)
  rintro e w2 ⟨a2, c2, L, rfl, hL, ho, hb⟩
  have r_A_2 := Lib.hid (rdf_b (r_A_1.out) hb)
  have T_2 := Lib.hid (below_trans (T_1.out) hb)
  have z_2 : w1.heap.size ≤ w2.heap.size := (by have := hb.size; (try simp at this); omega)
  have o_L_2 := Lib.hid (own_base ho (show w1.heap.size ≤ _ by first | omega | (simp; done) | (simp; omega)))
  have lo_L := Lib.hid (own_lo o_L_2.out)
  have hi_L := Lib.hid (own_hi o_L_2.out)
  have HL := Lib.hid hL
  have hLl : L.length ≤ 4294967296 := (by rw [hL, thrs_len]; simpa [tsum] using hl)
  clear hL
  clear hb r_A_1 T_1 ho
  go_wp2_with fail
  (with_reducible refine (slices_Contains _ _ L t (own_rd (o_L_2.out)) hLl).mono ?_)
  rintro e w9 ⟨rfl, rfl⟩
  rw [HL.out, HB9.out]
  clear o_L_2 lo_L hi_L
  go_wp2_with fail
  (with_reducible refine (I_cloneFlights _ _ _ _ ts (r_A_2.out) hl).mono ?_)
  rintro e w3 ⟨Ts, a1, cap1, rfl, hmp, hof, hb⟩
  have r_A_3 := Lib.hid (rdf_b (r_A_2.out) hb)
  have T_3 := Lib.hid (below_trans (T_2.out) hb)
  have z_3 : w2.heap.size ≤ w3.heap.size := (by have := hb.size; (try simp at this); omega)
  clear hb r_A_2 T_2
  have r_o_3 := Lib.hid (owf_mono hof (show w.heap.size ≤ _ by omega) (Nat.le_refl _) (Nat.le_refl _))
  have HM := Lib.hid hmp
  have hTl : Ts.length = ts.length := len_eq hmp
  have hTs : Ts.length + tsum Ts ≤ 6 := by have := tsum_eq hmp; omega
  have HTL := Lib.hid hTl
  clear hTl hof hmp
  clear r_A_3
  go_wp2_with fail
  (with_reducible refine (slices_BinarySearchF _ _ _ _ Ts key (owf_rdf (r_o_3.out)) (by rw [HM.out]; exact (fval_in HV.out).2.1) (by omega)).mono ?_)
  rintro e w4 ⟨k, bb, rfl, hj, hfp, hin, hout, hb⟩
  have r_o_4 := Lib.hid (owf_b (r_o_3.out) hb)
  have T_4 := Lib.hid (below_trans (T_3.out) hb)
  have z_4 : w3.heap.size ≤ w4.heap.size := (by have := hb.size; (try simp at this); omega)
  clear hb r_o_3 T_3
  have HIN := Lib.hid hin
  have HOUT := Lib.hid hout
  have HFP := Lib.hid hfp
  have hk0 : (0 : Int) ≤ (k : Int) := by omega
  clear hin hout hfp
  rcases bb with _ | _
  · have HMM := Lib.hid (HOUT.out rfl)
    clear HIN HOUT
    go_wp2_with fail
    (with_reducible refine (slices_InsertF _ _ _ w4.heap.size _ Ts k key t (owf_b r_o_4.out (below_alloc _ _)) hj (by omega) (by omega) (by omega) (alloc_at _ _)).mono ?_)
    rintro e w5 ⟨a2, c2, rfl, hrd, hb⟩
    have HRD := Lib.hid hrd
    have HBB := Lib.hid ((below_trans T_4.out (below_alloc _ _)).trans hb)
    clear hrd hb r_o_4
    go_wp2_with fail
    have hsm : (Ts.take k ++ [((key, t, [], Value.slice none 0 0) : FT)] ++ Ts.drop k).length + tsum (Ts.take k ++ [((key, t, [], Value.slice none 0 0) : FT)] ++ Ts.drop k) ≤ 7 := Nat.le_trans (ins_sum Ts k key t) (by omega)
    have HSM := Lib.hid hsm
    clear hsm
    (with_reducible refine (I_cloneFlights _ _ _ _ _ HRD.out (Nat.le_trans HSM.out (by omega))).mono ?_)
    rintro e w6 ⟨Rs, a3, c3, rfl, hmp, hof, hb⟩
    have HMR := Lib.hid hmp
    have HOR := Lib.hid hof
    have HB3 := Lib.hid (below_trans HBB.out hb)
    clear hmp hof hb
    go_wp2_with fail
    refine bodyPost_ret (v := .tuple #[.slice a3 Rs.length c3, .bool true, .bool true]) (by simp [results, Try.results20, go_sem]) rfl ⟨Rs, a3, c3, true, true, ?_, rfl, owf_mono HOR.out (by have := HBB.out.size; omega) (Nat.le_refl _) (Nat.le_refl _), HB3.out⟩
    have hm2 : key ∉ keys (ts.map fl) := by rw [← HM.out]; exact HMM.out
    rw [fjoin_new HOK.out hm2, HMR.out, ← HM.out]
    exact congrArg (fun l => (l, true, true)) (fins_map (j := k) HFP.out).symm
  · obtain ⟨hm, hix⟩ := HIN.out rfl
    have hkT : k < Ts.length := by have h := List.idxOf_lt_length_of_mem hm; rw [hix, keys_len] at h; simpa using h
    have hk2 : (k : Int) < (Ts.length : Int) := by omega
    rw [HM.out] at hm hix
    have HMM := Lib.hid hm
    have HIX := Lib.hid hix
    clear hm hix HIN HOUT HFP
    obtain ⟨gq, rfl⟩ := owf_some r_o_4.out (by omega)
    obtain ⟨_, _, c_Y2_4, f_Y2_4⟩ := owf_cells r_o_4.out rfl k hkT
    obtain ⟨X, hX⟩ : ∃ X : FT, Ts[k] = X := ⟨_, rfl⟩
    have hgB := own_lo r_o_4.out.1 gq rfl
    have hgC := r_o_4.out.2.1 gq rfl
    obtain ⟨xa, xc, hx3⟩ := own_shape (r_o_4.out.2.2.1 _ (List.getElem_mem hkT)).1
    rw [hX] at c_Y2_4 hx3
    obtain ⟨xk, xo, xs, xv⟩ := X
    simp only [fv, fw] at c_Y2_4 hx3
    subst hx3
    have hsz := tsum_get_le hkT
    rw [hX] at hsz
    simp only at hsz
    have HX := Lib.hid hX
    clear hX
    have ac_Y2_4 := fun o => cell_b (c_Y2_4) (below_alloc _ o)
    have af_Y2_4 := fun o => frz_b (cell_lt (c_Y2_4)) (f_Y2_4) (below_alloc _ o)
    have tok5 : True := trivial
    go_wp2_with (first | (at_builtin; have _t := tok5; have hof9 : OwF ((w4).alloc (.cells #[.int .i64 t] 3)) 47 (w.heap.size) (w3.heap.size) (.slice (some ⟨gq, 0, none⟩) Ts.length cap1) (Ts) := (owf_b (r_o_4.out) (below_alloc _ _)); have hin9 : ((w4).alloc (.cells #[.int .i64 t] 3)).ownsRow (w.heap.size) 3 1 (.slice xa xs.length xc) xs.length (ints xs) := (by have h := (hof9.2.2.1 _ (List.getElem_mem hkT)).1; rw [HX.out] at h; exact h); have hlt9 : ∀ g9, (Value.slice xa xs.length xc).ownBlock = some g9 → g9 < w3.heap.size ∧ g9 ≠ gq := (fun g9 h9 => ⟨by have h := (hof9.2.2.1 _ (List.getElem_mem hkT)).2; rw [HX.out] at h; exact h g9 h9, by have h := hof9.2.2.2.1 _ (List.getElem_mem hkT); rw [HX.out] at h; exact h gq g9 rfl h9⟩); refine wpList_append_own_at _ rfl _ _ 34 rfl (w.heap.size) 3 i0 (.int .i64 0) 1 8 Try.underlying34 hi hz0 hz1 hz2 rfl (by decide) (.slice xa xs.length xc) (xs.length) (ints xs) rfl hin9 ⟨w4.heap.size, 0, none⟩ 1 1 [.int .i64 t] rfl rfl (cell_one_new _ _ _) (ints_oneCell .i64 [t]) (by unfold maxLen; omega) (by omega) (by first | omega | (simp; done) | (simp; omega)) ?_; intro v5 w5 hown hgr _ hloc; clear tok5; have ho : w5.ownsRow (w.heap.size) 3 1 v5 (xs.length + 1) (ints (xs ++ [t])) := (by rw [ints_append]; exact hown); obtain ⟨a2, cap2, hv⟩ := own_shape ho; subst hv; have hup := owf_upd hof9 hkT (t := t) (u := .slice a2 (xs.length + 1) cap2) (n := xs.length + 1) (by rw [HX.out]; exact ho) (by rw [HX.out]) (by rw [HX.out]; exact hgr) (by rw [HX.out]; exact hloc) (g := gq) (cap := cap1) rfl (by first | omega | (simp; done) | (simp; omega)); have HUP := Lib.hid hup; have c_Y2_5 := cell_gr (cell_b (c_Y2_4) (below_alloc _ _)) hgr (fun g h => by have h1 := own_lo hin9 _ h; have h2 := hlt9 _ h; show gq ≠ g; omega); have f_Y2_5 := (frz_gr (p := ⟨gq, k * 3 + 2, none⟩) (cell_lt (cell_b (c_Y2_4) (below_alloc _ _))) hgr (fun g h => by have h1 := own_lo hin9 _ h; have h2 := hlt9 _ h; show gq ≠ g; omega)).trans (frz_b (cell_lt (c_Y2_4)) (f_Y2_4) (below_alloc _ _)); have T_5 := Lib.hid (below_gr (below_trans (T_4.out) (below_alloc _ _)) (by first | omega | (simp; done) | (simp; omega)) hgr (fun g h => by have h1 := own_lo hin9 _ h; have h2 := hlt9 _ h; omega)); have z_5 : w4.heap.size + 1 ≤ w5.heap.size := (by have := hgr.size; (try simp at this); omega); clear hgr c_Y2_4 f_Y2_4 T_4 ac_Y2_4 af_Y2_4 hown ho hloc hof9 hin9 hlt9 hup r_o_4))
    go_wp2_with fail
    have hRl : (Ts.set k (Ts[k].1, Ts[k].2.1, fw Ts[k] ++ [t], .slice a2 (xs.length + 1) cap2)).length = Ts.length := by simp
    have hsm := tsum_put hkT t (.slice a2 (xs.length + 1) cap2)
    have HSM : Hid ((Ts.set k (Ts[k].1, Ts[k].2.1, fw Ts[k] ++ [t], .slice a2 (xs.length + 1) cap2)).length + tsum (Ts.set k (Ts[k].1, Ts[k].2.1, fw Ts[k] ++ [t], .slice a2 (xs.length + 1) cap2)) ≤ 4294967296) := Lib.hid (by omega)
    clear hsm
    have HRD := Lib.hid (owf_rdf HUP.out)
    (with_reducible refine (I_cloneFlights _ _ _ _ _ HRD.out HSM.out).mono ?_)
    rintro e w6 ⟨Rs, a3, c3, rfl, hmp, hof, hb⟩
    have HMR := Lib.hid hmp
    have HOR := Lib.hid hof
    have HB3 := Lib.hid (below_trans ((T_5.out).setCell (p := ⟨gq, k * 3 + 2, none⟩) (by show w.heap.size ≤ gq; omega) _) hb)
    clear hmp hof hb
    go_wp2_with fail
    refine bodyPost_ret (v := .tuple #[.slice a3 Rs.length c3, .bool false, .bool true]) (by simp [results, Try.results20, go_sem]) rfl ⟨Rs, a3, c3, false, true, ?_, rfl, owf_mono HOR.out (by first | omega | (simp; omega)) (Nat.le_refl _) (Nat.le_refl _), HB3.out⟩
    rw [fjoin_put HOK.out HMM.out, HIX.out, HMR.out, fput_map hkT, HM.out]
end Go.Proofs.Ytafpnkcdoeicgaa
