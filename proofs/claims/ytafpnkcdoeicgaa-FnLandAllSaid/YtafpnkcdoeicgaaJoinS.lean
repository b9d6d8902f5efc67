/- The contract of spec.JoinFlight. -/
import Derived.Test.YtafpnkcdoeicgaaFlightFind
import Derived.Deep.RegionHeld3
import Derived.Deep.RegionLaw
import Derived.Deep.DrawnRows
namespace Go.Proofs.Ytafpnkcdoeicgaa
open Go.RowKit
attribute [local go_sem ↓] Go.wp_at_zero Go.wp_at_succ

/-- What JoinFlight hands back. -/
def Joined (w : World) (fs : List Fl) (key t : Int) (e : Ending) (w' : World) : Prop :=
  ∃ (Rs : List FT) (a : Option Addr) (cap : Nat) (f ok : Bool), fjoin fs key t = (Rs.map fl, f, ok) ∧ e = .returned (.tuple #[.slice a Rs.length cap, .bool f, .bool ok]) ∧ OwF w' 47 w.heap.size w'.heap.size (.slice a Rs.length cap) Rs ∧ Below w.heap.size w w'
theorem joinOk_false {fs : List Fl} {key t : Int} (h : fval fs = false ∨ thr t = false ∨ key < 0 ∨ 99 < key ∨ hasB (thrs fs) t = true) : joinOk fs key t = false := by
  rw [Bool.eq_false_iff]; intro hh
  obtain ⟨h1, h2, h3, h4, h5⟩ := joinOk_in hh
  rcases h with h | h | h | h | h
  · rw [h] at h1; cases h1
  · rw [h] at h2; cases h2
  · omega
  · omega
  · rw [h] at h5; cases h5
theorem joinOk_true {fs : List Fl} {key t : Int} (h1 : fval fs = true) (h2 : thr t = true) (h3 : 0 ≤ key) (h4 : key ≤ 99) (h5 : hasB (thrs fs) t = false) : joinOk fs key t = true := by
  unfold joinOk; rw [h1, h2, decide_eq_true h3, decide_eq_true h4, h5]; rfl
theorem key_in {ts : List FT} {key : Int} (h : key ∈ keys (ts.map fl)) : ∃ k : Nat, ∃ hk : k < ts.length, atF (keys (ts.map fl)) key = (k : Int) ∧ (keys (ts.map fl)).idxOf key = k ∧ ts[k].1 = key := by
  have hk : (keys (ts.map fl)).idxOf key < (keys (ts.map fl)).length := List.idxOf_lt_length_of_mem h
  have hk2 : (keys (ts.map fl)).idxOf key < ts.length := by rw [keys_len] at hk; simpa using hk
  refine ⟨_, hk2, ?_, rfl, ?_⟩
  · unfold atF; rw [if_pos h]
  · rw [← keys_get hk2 hk]; exact List.getElem_idxOf hk
theorem fput_map {Ts : List FT} {k : Nat} {t : Int} {v : Value} (hk : k < Ts.length) : (Ts.set k (Ts[k].1, Ts[k].2.1, fw Ts[k] ++ [t], v)).map fl = fput (Ts.map fl) k t := by
  unfold fput; rw [dif_pos (by simpa using hk), List.map_set]; simp
theorem fins_map {Ts : List FT} {j : Nat} {key t : Int} {v : Value} (hj : fpos (Ts.map fl) key = j) : (Ts.take j ++ [(key, t, [], v)] ++ Ts.drop j).map fl = fins (Ts.map fl) key t := by
  unfold fins; rw [hj]; simp [List.map_take, List.map_drop]

set_option maxHeartbeats 4000000 in
set_option maxRecDepth 100000 in
theorem S_JoinFlight (w : World) (B C : Nat) (v : Value) (ts : List FT) (key t : Int) (hr : RdF w B C v ts) (hl : ts.length + tsum ts ≤ 4294967296) :
    Calls Try.prog 19 #[v, .int .i64 key, .int .i64 t] w (Joined w (ts.map fl) key t) := by
  obtain ⟨i0, hi, hz0, hz1, hz2⟩ := info_parts info3
  obtain ⟨j0, hj, hy0, hy1, hy2⟩ := info_parts infoF
  have r_A_0 := Lib.hid hr
  clear hr
  by_cases hv : fval (ts.map fl) = true
  rotate_left
  · have HV : Hid (fval (ts.map fl) = false) := Lib.hid (by simpa using hv)
    clear hv
    go_enter Try.func19, Try.ntmps19
    have T_0 : Hid (Below w.heap.size w w) := Lib.hid (Below.refl _ _)
    go_wp2_with fail
    (with_reducible refine (S_FlightsValid_q _ _ _ _ ts _ (r_A_0.out) hl HV.out).mono ?_)
    rintro e w1 ⟨rfl, hb⟩
    have r_A_1 := Lib.hid (rdf_b (r_A_0.out) hb)
    have T_1 := Lib.hid (below_trans (T_0.out) hb)
    have z_1 : w.heap.size ≤ w1.heap.size := (by have := hb.size; (try simp at this); omega)
    clear hb r_A_0 T_0
    go_wp2_with fail
    refine bodyPost_ret (v := .tuple #[.slice (some ⟨w1.heap.size, 0, none⟩) 0 0, .bool false, .bool false]) (by simp [results, Try.results19, go_sem]) rfl ⟨[], _, _, false, false, fjoin_no (joinOk_false (.inl HV.out)), rfl, owf_mono (owf_made w1 _ _ _ rfl (Nat.le_refl _)) z_1 (by simp) (Nat.le_refl _), below_trans (T_1.out) (below_alloc _ _)⟩
  by_cases ht : thr t = true
  rotate_left
  · have HV : Hid (fval (ts.map fl) = true) := Lib.hid hv
    clear hv
    have HT : Hid (thr t = false) := Lib.hid (by simpa using ht)
    clear ht
    go_enter Try.func19, Try.ntmps19
    have T_0 : Hid (Below w.heap.size w w) := Lib.hid (Below.refl _ _)
    go_wp2_with fail
    (with_reducible refine (S_FlightsValid_q _ _ _ _ ts _ (r_A_0.out) hl HV.out).mono ?_)
    rintro e w1 ⟨rfl, hb⟩
    have r_A_1 := Lib.hid (rdf_b (r_A_0.out) hb)
    have T_1 := Lib.hid (below_trans (T_0.out) hb)
    have z_1 : w.heap.size ≤ w1.heap.size := (by have := hb.size; (try simp at this); omega)
    clear hb r_A_0 T_0
    go_wp2_with fail
    (with_reducible refine (S_l1Thread _ t).mono ?_)
    rintro e w9 ⟨rfl, rfl⟩
    rw [HT.out]
    go_wp2_with fail
    refine bodyPost_ret (v := .tuple #[.slice (some ⟨w1.heap.size, 0, none⟩) 0 0, .bool false, .bool false]) (by simp [results, Try.results19, go_sem]) rfl ⟨[], _, _, false, false, fjoin_no (joinOk_false (.inr (.inl HT.out))), rfl, owf_mono (owf_made w1 _ _ _ rfl (Nat.le_refl _)) z_1 (by simp) (Nat.le_refl _), below_trans (T_1.out) (below_alloc _ _)⟩
  by_cases h1 : key < 0
  · have HV : Hid (fval (ts.map fl) = true) := Lib.hid hv
    clear hv
    have HT : Hid (thr t = true) := Lib.hid ht
    clear ht
    go_enter Try.func19, Try.ntmps19
    have T_0 : Hid (Below w.heap.size w w) := Lib.hid (Below.refl _ _)
    go_wp2_with fail
    (with_reducible refine (S_FlightsValid_q _ _ _ _ ts _ (r_A_0.out) hl HV.out).mono ?_)
    rintro e w1 ⟨rfl, hb⟩
    have r_A_1 := Lib.hid (rdf_b (r_A_0.out) hb)
    have T_1 := Lib.hid (below_trans (T_0.out) hb)
    have z_1 : w.heap.size ≤ w1.heap.size := (by have := hb.size; (try simp at this); omega)
    clear hb r_A_0 T_0
    go_wp2_with fail
    (with_reducible refine (S_l1Thread _ t).mono ?_)
    rintro e w9 ⟨rfl, rfl⟩
    rw [HT.out]
    go_wp2_with fail
    refine bodyPost_ret (v := .tuple #[.slice (some ⟨w1.heap.size, 0, none⟩) 0 0, .bool false, .bool false]) (by simp [results, Try.results19, go_sem]) rfl ⟨[], _, _, false, false, fjoin_no (joinOk_false (.inr (.inr (.inl (by omega))))), rfl, owf_mono (owf_made w1 _ _ _ rfl (Nat.le_refl _)) z_1 (by simp) (Nat.le_refl _), below_trans (T_1.out) (below_alloc _ _)⟩
  by_cases h2 : 99 < key
  · have HV : Hid (fval (ts.map fl) = true) := Lib.hid hv
    clear hv
    have HT : Hid (thr t = true) := Lib.hid ht
    clear ht
    have h1b : 0 ≤ key := by omega
    clear h1
    go_enter Try.func19, Try.ntmps19
    have T_0 : Hid (Below w.heap.size w w) := Lib.hid (Below.refl _ _)
    go_wp2_with fail
    (with_reducible refine (S_FlightsValid_q _ _ _ _ ts _ (r_A_0.out) hl HV.out).mono ?_)
    rintro e w1 ⟨rfl, hb⟩
    have r_A_1 := Lib.hid (rdf_b (r_A_0.out) hb)
    have T_1 := Lib.hid (below_trans (T_0.out) hb)
    have z_1 : w.heap.size ≤ w1.heap.size := (by have := hb.size; (try simp at this); omega)
    clear hb r_A_0 T_0
    go_wp2_with fail
    (with_reducible refine (S_l1Thread _ t).mono ?_)
    rintro e w9 ⟨rfl, rfl⟩
    rw [HT.out]
    go_wp2_with fail
    refine bodyPost_ret (v := .tuple #[.slice (some ⟨w1.heap.size, 0, none⟩) 0 0, .bool false, .bool false]) (by simp [results, Try.results19, go_sem]) rfl ⟨[], _, _, false, false, fjoin_no (joinOk_false (.inr (.inr (.inr (.inl (by omega)))))), rfl, owf_mono (owf_made w1 _ _ _ rfl (Nat.le_refl _)) z_1 (by simp) (Nat.le_refl _), below_trans (T_1.out) (below_alloc _ _)⟩
  by_cases hb9 : hasB (thrs (ts.map fl)) t = true
  · have HV : Hid (fval (ts.map fl) = true) := Lib.hid hv
    clear hv
    have HT : Hid (thr t = true) := Lib.hid ht
    clear ht
    have h1b : 0 ≤ key := by omega
    have h2b : key ≤ 99 := by omega
    clear h1 h2
    have HB9 : Hid (hasB (thrs (ts.map fl)) t = true) := Lib.hid hb9
    clear hb9
    go_enter Try.func19, Try.ntmps19
    have T_0 : Hid (Below w.heap.size w w) := Lib.hid (Below.refl _ _)
    go_wp2_with fail
    (with_reducible refine (S_FlightsValid_q _ _ _ _ ts _ (r_A_0.out) hl HV.out).mono ?_)
    rintro e w1 ⟨rfl, hb⟩
    have r_A_1 := Lib.hid (rdf_b (r_A_0.out) hb)
    have T_1 := Lib.hid (below_trans (T_0.out) hb)
    have z_1 : w.heap.size ≤ w1.heap.size := (by have := hb.size; (try simp at this); omega)
    clear hb r_A_0 T_0
    go_wp2_with fail
    (with_reducible refine (S_l1Thread _ t).mono ?_)
    rintro e w9 ⟨rfl, rfl⟩
    rw [HT.out]
    go_wp2_with fail
    (with_reducible refine (S_l3Busy _ _ _ _ ts t (r_A_1.out) hl).mono ?_)
    rintro e w9 ⟨rfl, rfl⟩
    rw [HB9.out]
    go_wp2_with fail
    refine bodyPost_ret (v := .tuple #[.slice (some ⟨w1.heap.size, 0, none⟩) 0 0, .bool false, .bool false]) (by simp [results, Try.results19, go_sem]) rfl ⟨[], _, _, false, false, fjoin_no (joinOk_false (.inr (.inr (.inr (.inr HB9.out))))), rfl, owf_mono (owf_made w1 _ _ _ rfl (Nat.le_refl _)) z_1 (by simp) (Nat.le_refl _), below_trans (T_1.out) (below_alloc _ _)⟩
  by_cases hm : key ∈ keys (ts.map fl)
  · have HV : Hid (fval (ts.map fl) = true) := Lib.hid hv
    clear hv
    have HT : Hid (thr t = true) := Lib.hid ht
    clear ht
    have h1b : 0 ≤ key := by omega
    have h2b : key ≤ 99 := by omega
    clear h1 h2
    have HB9 : Hid (hasB (thrs (ts.map fl)) t = false) := Lib.hid (by simpa using hb9)
    clear hb9
    have HOK := Lib.hid (joinOk_true HV.out HT.out h1b h2b HB9.out)
    have hl6 := fval_sum HV.out
    have hl7 : ts.length + tsum ts ≤ 6 := by simpa [tsum] using hl6
    clear hl6
    obtain ⟨k, hk, hz, hix, hky⟩ := key_in hm
    have HZ := Lib.hid hz
    have HIX := Lib.hid hix
    have HMM := Lib.hid hm
    have hk0 : (0 : Int) ≤ (k : Int) := by omega
    clear hm hz hix hky
    go_enter Try.func19, Try.ntmps19
    have T_0 : Hid (Below w.heap.size w w) := Lib.hid (Below.refl _ _)
    go_wp2_with fail
    (with_reducible refine (S_FlightsValid_q _ _ _ _ ts _ (r_A_0.out) hl HV.out).mono ?_)
    rintro e w1 ⟨rfl, hb⟩
    have r_A_1 := Lib.hid (rdf_b (r_A_0.out) hb)
    have T_1 := Lib.hid (below_trans (T_0.out) hb)
    have z_1 : w.heap.size ≤ w1.heap.size := (by have := hb.size; (try simp at this); omega)
    clear hb r_A_0 T_0
    go_wp2_with fail
    (with_reducible refine (S_l1Thread _ t).mono ?_)
    rintro e w9 ⟨rfl, rfl⟩
    rw [HT.out]
    go_wp2_with fail
    (with_reducible refine (S_l3Busy _ _ _ _ ts t (r_A_1.out) hl).mono ?_)
    rintro e w9 ⟨rfl, rfl⟩
    rw [HB9.out]
    go_wp2_with fail
    (with_reducible refine (S_l3Copy _ _ _ _ ts (r_A_1.out) hl).mono ?_)
    rintro e w2 ⟨Ts, a1, cap1, rfl, hmp, hof, hb⟩
    have r_A_2 := Lib.hid (rdf_b (r_A_1.out) hb)
    have T_2 := Lib.hid (below_trans (T_1.out) hb)
    have z_2 : w1.heap.size ≤ w2.heap.size := (by have := hb.size; (try simp at this); omega)
    clear hb r_A_1 T_1
    have r_o_2 := Lib.hid (owf_mono hof (by omega) (Nat.le_refl _) (Nat.le_refl _))
    have HM := Lib.hid hmp
    have hTl : Ts.length = ts.length := len_eq hmp
    have hTs : Ts.length + tsum Ts ≤ 6 := by have := tsum_eq hmp; omega
    have HTL := Lib.hid hTl
    clear hTl hof hmp
    go_wp2_with fail
    (with_reducible refine (S_l3Find _ _ _ _ ts key (r_A_2.out) hl).mono ?_)
    rintro e w9 ⟨rfl, rfl⟩
    rw [HZ.out]
    clear r_A_2
    have hkT : k < Ts.length := by have := HTL.out; omega
    have hk2 : (k : Int) < (Ts.length : Int) := by omega
    obtain ⟨gq, rfl⟩ := owf_some r_o_2.out (by omega)
    obtain ⟨_, _, c_Y2_2, f_Y2_2⟩ := owf_cells r_o_2.out rfl k hkT
    obtain ⟨X, hX⟩ : ∃ X : FT, Ts[k] = X := ⟨_, rfl⟩
    have hgB := own_lo r_o_2.out.1 gq rfl
    have hgC := r_o_2.out.2.1 gq rfl
    obtain ⟨xa, xc, hx3⟩ := own_shape (r_o_2.out.2.2.1 _ (List.getElem_mem hkT)).1
    rw [hX] at c_Y2_2 hx3
    obtain ⟨xk, xo, xs, xv⟩ := X
    simp only [fv, fw] at c_Y2_2 hx3
    subst hx3
    have hsz := tsum_get_le hkT
    rw [hX] at hsz
    simp only at hsz
    have HX := Lib.hid hX
    clear hX
    have ac_Y2_2 := fun o => cell_b (c_Y2_2) (below_alloc _ o)
    have af_Y2_2 := fun o => frz_b (cell_lt (c_Y2_2)) (f_Y2_2) (below_alloc _ o)
    have tok3 : True := trivial
    go_wp2_with (first | (at_builtin; have _t := tok3; have hof9 : OwF ((w2).alloc (.cells #[.int .i64 t] 3)) 47 (w.heap.size) (w2.heap.size) (.slice (some ⟨gq, 0, none⟩) Ts.length cap1) (Ts) := (owf_b (r_o_2.out) (below_alloc _ _)); have hin9 : ((w2).alloc (.cells #[.int .i64 t] 3)).ownsRow (w.heap.size) 3 1 (.slice xa xs.length xc) xs.length (ints xs) := (by have h := (hof9.2.2.1 _ (List.getElem_mem hkT)).1; rw [HX.out] at h; exact h); have hlt9 : ∀ g9, (Value.slice xa xs.length xc).ownBlock = some g9 → g9 < w2.heap.size ∧ g9 ≠ gq := (fun g9 h9 => ⟨by have h := (hof9.2.2.1 _ (List.getElem_mem hkT)).2; rw [HX.out] at h; exact h g9 h9, by have h := hof9.2.2.2.1 _ (List.getElem_mem hkT); rw [HX.out] at h; exact h gq g9 rfl h9⟩); refine wpList_append_own_at _ rfl _ _ 34 rfl (w.heap.size) 3 i0 (.int .i64 0) 1 8 Try.underlying34 hi hz0 hz1 hz2 rfl (by decide) (.slice xa xs.length xc) (xs.length) (ints xs) rfl hin9 ⟨w2.heap.size, 0, none⟩ 1 1 [.int .i64 t] rfl rfl (cell_one_new _ _ _) (ints_oneCell .i64 [t]) (by unfold maxLen; omega) (by omega) (by first | omega | (simp; done) | (simp; omega)) ?_; intro v3 w3 hown hgr _ hloc; clear tok3; have ho : w3.ownsRow (w.heap.size) 3 1 v3 (xs.length + 1) (ints (xs ++ [t])) := (by rw [ints_append]; exact hown); obtain ⟨a2, cap2, hv⟩ := own_shape ho; subst hv; have hup := owf_upd hof9 hkT (t := t) (u := .slice a2 (xs.length + 1) cap2) (n := xs.length + 1) (by rw [HX.out]; exact ho) (by rw [HX.out]) (by rw [HX.out]; exact hgr) (by rw [HX.out]; exact hloc) (g := gq) (cap := cap1) rfl (by first | omega | (simp; done) | (simp; omega)); have HUP := Lib.hid hup; have c_Y2_3 := cell_gr (cell_b (c_Y2_2) (below_alloc _ _)) hgr (fun g h => by have h1 := own_lo hin9 _ h; have h2 := hlt9 _ h; show gq ≠ g; omega); have f_Y2_3 := (frz_gr (p := ⟨gq, k * 3 + 2, none⟩) (cell_lt (cell_b (c_Y2_2) (below_alloc _ _))) hgr (fun g h => by have h1 := own_lo hin9 _ h; have h2 := hlt9 _ h; show gq ≠ g; omega)).trans (frz_b (cell_lt (c_Y2_2)) (f_Y2_2) (below_alloc _ _)); have T_3 := Lib.hid (below_gr (below_trans (T_2.out) (below_alloc _ _)) (by first | omega | (simp; done) | (simp; omega)) hgr (fun g h => by have h1 := own_lo hin9 _ h; have h2 := hlt9 _ h; omega)); have z_3 : w2.heap.size + 1 ≤ w3.heap.size := (by have := hgr.size; (try simp at this); omega); clear hgr c_Y2_2 f_Y2_2 T_2 ac_Y2_2 af_Y2_2 hown ho hloc hof9 hin9 hlt9 hup r_o_2))
    go_wp2_with fail
    have hRl : (Ts.set k (Ts[k].1, Ts[k].2.1, fw Ts[k] ++ [t], .slice a2 (xs.length + 1) cap2)).length = Ts.length := by simp
    refine bodyPost_ret (v := .tuple #[.slice (some ⟨gq, 0, none⟩) Ts.length cap1, .bool false, .bool true]) (by simp [results, Try.results19, go_sem]) rfl ⟨Ts.set k (Ts[k].1, Ts[k].2.1, fw Ts[k] ++ [t], .slice a2 (xs.length + 1) cap2), some ⟨gq, 0, none⟩, cap1, false, true, by rw [fjoin_put HOK.out HMM.out, HIX.out, fput_map hkT, HM.out], by rw [hRl], ?_, ((T_3.out).setCell (p := ⟨gq, k * 3 + 2, none⟩) (by show w.heap.size ≤ gq; omega) _)⟩
    rw [hRl]
    exact owf_mono HUP.out (Nat.le_refl _) (by simp) (Nat.le_refl _)
  · have HV : Hid (fval (ts.map fl) = true) := Lib.hid hv
    clear hv
    have HT : Hid (thr t = true) := Lib.hid ht
    clear ht
    have h1b : 0 ≤ key := by omega
    have h2b : key ≤ 99 := by omega
    clear h1 h2
    have HB9 : Hid (hasB (thrs (ts.map fl)) t = false) := Lib.hid (by simpa using hb9)
    clear hb9
    have HOK := Lib.hid (joinOk_true HV.out HT.out h1b h2b HB9.out)
    have hl6 := fval_sum HV.out
    have hl7 : ts.length + tsum ts ≤ 6 := by simpa [tsum] using hl6
    clear hl6
    have hz : atF (keys (ts.map fl)) key < 0 := atF_neg.2 hm
    obtain ⟨z, hz2⟩ : ∃ z, atF (keys (ts.map fl)) key = z := ⟨_, rfl⟩
    rw [hz2] at hz
    have HZ := Lib.hid hz2
    have HMM := Lib.hid hm
    clear hm hz2
    go_enter Try.func19, Try.ntmps19
    have T_0 : Hid (Below w.heap.size w w) := Lib.hid (Below.refl _ _)
    go_wp2_with fail
    (with_reducible refine (S_FlightsValid_q _ _ _ _ ts _ (r_A_0.out) hl HV.out).mono ?_)
    rintro e w1 ⟨rfl, hb⟩
    have r_A_1 := Lib.hid (rdf_b (r_A_0.out) hb)
    have T_1 := Lib.hid (below_trans (T_0.out) hb)
    have z_1 : w.heap.size ≤ w1.heap.size := (by have := hb.size; (try simp at this); omega)
    clear hb r_A_0 T_0
    go_wp2_with fail
    (with_reducible refine (S_l1Thread _ t).mono ?_)
    rintro e w9 ⟨rfl, rfl⟩
    rw [HT.out]
    go_wp2_with fail
    (with_reducible refine (S_l3Busy _ _ _ _ ts t (r_A_1.out) hl).mono ?_)
    rintro e w9 ⟨rfl, rfl⟩
    rw [HB9.out]
    go_wp2_with fail
    (with_reducible refine (S_l3Copy _ _ _ _ ts (r_A_1.out) hl).mono ?_)
    rintro e w2 ⟨Ts, a1, cap1, rfl, hmp, hof, hb⟩
    have r_A_2 := Lib.hid (rdf_b (r_A_1.out) hb)
    have T_2 := Lib.hid (below_trans (T_1.out) hb)
    have z_2 : w1.heap.size ≤ w2.heap.size := (by have := hb.size; (try simp at this); omega)
    clear hb r_A_1 T_1
    have r_o_2 := Lib.hid (owf_mono hof (by omega) (Nat.le_refl _) (Nat.le_refl _))
    have HM := Lib.hid hmp
    have hTl : Ts.length = ts.length := len_eq hmp
    have hTs : Ts.length + tsum Ts ≤ 6 := by have := tsum_eq hmp; omega
    have HTL := Lib.hid hTl
    clear hTl hof hmp
    go_wp2_with fail
    (with_reducible refine (S_l3Find _ _ _ _ ts key (r_A_2.out) hl).mono ?_)
    rintro e w9 ⟨rfl, rfl⟩
    rw [HZ.out]
    clear r_A_2
    have HONE := Lib.hid (owf_one r_o_2.out)
    rcases owf_form r_o_2.out with ⟨rfl, hn0, rfl, rfl⟩ | ⟨gq, rfl⟩
    · go_wp2_with fail
      go_loop [10] (fun i => i = .int .i64 0) (fun _ => 0)
      case atStart => rfl
      case round =>
        subst hrel
        have r_P_2 := Lib.hid (rdp_nil w2 w.heap.size w2.heap.size)
        have r_Q_2 := Lib.hid (rdp_nil w2 w.heap.size w2.heap.size)
        have HPOS := Lib.hid ((by simp [fpos] : fpos (([] : List FT).map fl) key = 0))
        have tok5 : True := trivial
        have tok4 : True := trivial
        have tok3 : True := trivial
        go_wp2_with (first | (at_builtin; have _t := tok3; refine wpList_append_rdx (by rfl) _ _ 25 rfl (w2.heap.size) 47 3 40 (.agg #[.int .i64 0, .int .i64 0, .slice none 0 0]) j0 Try.underlying25 hj hy0 hy1 hy2 rfl (by decide) (.slice (some ⟨w2.heap.size, 0, none⟩) 0 0) (0) ([]) rfl ((owf_made (w2) _ (w2.heap.size) (w2.heap.size) (by first | rfl | simp) (Nat.le_refl _)).1) _ _ _ (tcs (([] : List FT))) rfl (rdp_x (rdp_b (r_P_2.out) (below_alloc _ _))) (tcs_one (fun t9 ht9 => HONE.out t9 (by first | exact List.mem_of_mem_take ht9 | exact absurd ht9 (by simp) | exact ht9))) (by first | (unfold maxLen; omega) | (unfold maxLen; simp; omega)) (by first | omega | (simp; omega)) (by first | omega | (simp; done) | (simp; omega)) ?_; intro v3 w3 hown hgr hloc; clear tok3; have ho : w3.ownsRow (w2.heap.size) 47 3 v3 (0) (tcs (([] : List FT))) := (by rw [Nat.zero_add, List.nil_append] at hown; exact hown); obtain ⟨a4, c4, hv⟩ := own_shape ho; subst hv; have iv_n1 : Hid (∀ g, (Value.slice a4 (0) c4).ownBlock = some g → (w2.heap.size ≤ g ∧ g < w2.heap.size + 1) ∨ (w2.heap.size + 1 ≤ g ∧ g < w3.heap.size)) := Lib.hid (fun g h => by have h9 := hgr.size; have h7 := own_hi ho g h; rcases hloc with h8 | h8 <;> rw [h8] at h <;> (simp only [Value.ownBlock, Option.some.injEq] at h; (try simp at h9); (try simp at h); omega)); have r_o_3 := Lib.hid (owf_row (owf_b (r_o_2.out) (below_alloc _ _)) hgr (fun g h => by simp only [Value.ownBlock, Option.some.injEq] at h; omega)); have r_P_3 := Lib.hid (rdp_row (rdp_b (r_P_2.out) (below_alloc _ _)) hgr (fun g h => by simp only [Value.ownBlock, Option.some.injEq] at h; omega)); have r_Q_3 := Lib.hid (rdp_row (rdp_b (r_Q_2.out) (below_alloc _ _)) hgr (fun g h => by simp only [Value.ownBlock, Option.some.injEq] at h; omega)); have T_3 := Lib.hid (below_gr (below_trans (T_2.out) (below_alloc _ _)) (by first | omega | (simp; done) | (simp; omega)) hgr (fun g h => by simp only [Value.ownBlock, Option.some.injEq] at h; omega)); have z_3 : w2.heap.size + 1 ≤ w3.heap.size := (by have := hgr.size; (try simp at this); omega); have o_n1_3 := Lib.hid ho; have lo_n1 := Lib.hid (own_lo o_n1_3.out); have hi_n1 := Lib.hid (own_hi o_n1_3.out); clear hgr r_o_2 r_P_2 r_Q_2 T_2 hown ho hloc) | (at_builtin; have _t := tok4; refine wpList_append_rdx (by rfl) _ _ 25 rfl (w2.heap.size) 47 3 40 (.agg #[.int .i64 0, .int .i64 0, .slice none 0 0]) j0 Try.underlying25 hj hy0 hy1 hy2 rfl (by decide) (.slice a4 (0) c4) ((0)) (tcs (([] : List FT))) rfl (own_below (own_below (o_n1_3.out) (below_alloc _ _)) (below_alloc _ _)) _ _ _ (tcs ([(key, t, [], Value.slice (some ⟨w3.heap.size, 0, none⟩) 0 0)])) rfl (rdx_lit3 _ _ _ _ _ _ (w3.heap.size + 1) (by first | rfl | (simp; done))) (tcs_one1 _ _ _ _ _ _) (by first | (unfold maxLen; omega) | (unfold maxLen; simp; omega)) (by first | omega | (simp; omega)) (by first | omega | (simp; done) | (simp; omega)) ?_; intro v4 w4 hown hgr hloc; clear tok4; have ho : w4.ownsRow (w2.heap.size) 47 3 v4 ((0) + 1) (tcs (([] : List FT) ++ [(key, t, [], Value.slice (some ⟨w3.heap.size, 0, none⟩) 0 0)])) := (by rw [tcs_append]; exact hown); obtain ⟨a5, c5, hv⟩ := own_shape ho; subst hv; have iv_n2 : Hid (∀ g, (Value.slice a5 ((0) + 1) c5).ownBlock = some g → (w2.heap.size ≤ g ∧ g < w2.heap.size + 1) ∨ (w2.heap.size + 1 ≤ g ∧ g < w3.heap.size) ∨ (w3.heap.size + 2 ≤ g ∧ g < w4.heap.size)) := Lib.hid (fun g h => by have h9 := hgr.size; have h7 := own_hi ho g h; rcases hloc with h8 | h8 <;> rw [h8] at h <;> first | (have h1 := lo_n1.out g h; have h2 := hi_n1.out g h; have h5 := iv_n1.out g h; (try simp at h9); omega) | (injection h with h; (try simp at h9); (try simp at h); omega)); have r_o_4 := Lib.hid (owf_row (owf_b (owf_b (r_o_3.out) (below_alloc _ _)) (below_alloc _ _)) hgr (fun g h => by have h1 := lo_n1.out g h; have h2 := hi_n1.out g h; have h5 := iv_n1.out g h; omega)); have r_P_4 := Lib.hid (rdp_row (rdp_b (rdp_b (r_P_3.out) (below_alloc _ _)) (below_alloc _ _)) hgr (fun g h => by have h1 := lo_n1.out g h; have h2 := hi_n1.out g h; have h5 := iv_n1.out g h; omega)); have r_Q_4 := Lib.hid (rdp_row (rdp_b (rdp_b (r_Q_3.out) (below_alloc _ _)) (below_alloc _ _)) hgr (fun g h => by have h1 := lo_n1.out g h; have h2 := hi_n1.out g h; have h5 := iv_n1.out g h; omega)); have T_4 := Lib.hid (below_gr (below_trans (below_trans (T_3.out) (below_alloc _ _)) (below_alloc _ _)) (by first | omega | (simp; done) | (simp; omega)) hgr (fun g h => by have h1 := lo_n1.out g h; have h2 := hi_n1.out g h; have h5 := iv_n1.out g h; omega)); have z_4 : w3.heap.size + 2 ≤ w4.heap.size := (by have := hgr.size; (try simp at this); omega); have o_n2_4 := Lib.hid ho; have lo_n2 := Lib.hid (own_lo o_n2_4.out); have hi_n2 := Lib.hid (own_hi o_n2_4.out); have o_u_4 := Lib.hid (own_gr (own_below (ow_made_at w3 w3.heap.size w3.heap.size rfl (Nat.le_refl _)) (below_alloc _ _)) hgr (fun g g' h h' => by have h1 := lo_n1.out g h; have h2 := hi_n1.out g h; simp only [Value.ownBlock, Option.some.injEq] at h'; omega)); have lo_u := Lib.hid (own_lo o_u_4.out); have hi_u := Lib.hid (own_hi o_u_4.out); clear hgr r_o_3 r_P_3 r_Q_3 T_3 hown ho hloc o_n1_3 lo_n1 hi_n1) | (at_builtin; have _t := tok5; refine wpList_append_rdx (by rfl) _ _ 25 rfl (w2.heap.size) 47 3 40 (.agg #[.int .i64 0, .int .i64 0, .slice none 0 0]) j0 Try.underlying25 hj hy0 hy1 hy2 rfl (by decide) (.slice a5 ((0) + 1) c5) (((0) + 1)) (tcs (([] : List FT) ++ [(key, t, [], Value.slice (some ⟨w3.heap.size, 0, none⟩) 0 0)])) rfl (o_n2_4.out) _ _ _ (tcs (([] : List FT))) rfl (rdp_x (r_Q_4.out)) (tcs_one (fun t9 ht9 => HONE.out t9 (by first | exact List.mem_of_mem_drop ht9 | exact absurd ht9 (by simp) | exact ht9))) (by first | (unfold maxLen; omega) | (unfold maxLen; simp; omega)) (by first | omega | (simp; omega)) (by first | omega | (simp; done) | (simp; omega)) ?_; intro v5 w5 hown hgr hloc; clear tok5; have ho : w5.ownsRow (w2.heap.size) 47 3 v5 (((0) + 1) + 0) (tcs (([] : List FT) ++ [(key, t, [], Value.slice (some ⟨w3.heap.size, 0, none⟩) 0 0)] ++ ([] : List FT))) := (by rw [tcs_append]; exact hown); obtain ⟨a6, c6, hv⟩ := own_shape ho; subst hv; have iv_n3 : Hid (∀ g, (Value.slice a6 (((0) + 1) + 0) c6).ownBlock = some g → (w2.heap.size ≤ g ∧ g < w2.heap.size + 1) ∨ (w2.heap.size + 1 ≤ g ∧ g < w3.heap.size) ∨ (w3.heap.size + 2 ≤ g ∧ g < w4.heap.size) ∨ (w4.heap.size ≤ g ∧ g < w5.heap.size)) := Lib.hid (fun g h => by have h9 := hgr.size; have h7 := own_hi ho g h; rcases hloc with h8 | h8 <;> rw [h8] at h <;> first | (have h1 := lo_n2.out g h; have h2 := hi_n2.out g h; have h5 := iv_n2.out g h; (try simp at h9); omega) | (injection h with h; (try simp at h9); (try simp at h); omega)); have o_u_5 := Lib.hid (own_gr (o_u_4.out) hgr (fun g g' h h' => by have h1 := lo_n2.out g h; have h2 := hi_n2.out g h; have h5 := iv_n2.out g h; have h3 := lo_u.out g' h'; have h4 := hi_u.out g' h'; simp only [Value.ownBlock, Option.some.injEq] at h'; omega)); have r_o_5 := Lib.hid (owf_row (r_o_4.out) hgr (fun g h => by have h1 := lo_n2.out g h; have h2 := hi_n2.out g h; have h5 := iv_n2.out g h; omega)); have r_P_5 := Lib.hid (rdp_row (r_P_4.out) hgr (fun g h => by have h1 := lo_n2.out g h; have h2 := hi_n2.out g h; have h5 := iv_n2.out g h; omega)); have r_Q_5 := Lib.hid (rdp_row (r_Q_4.out) hgr (fun g h => by have h1 := lo_n2.out g h; have h2 := hi_n2.out g h; have h5 := iv_n2.out g h; omega)); have T_5 := Lib.hid (below_gr (T_4.out) (by first | omega | (simp; done) | (simp; omega)) hgr (fun g h => by have h1 := lo_n2.out g h; have h2 := hi_n2.out g h; have h5 := iv_n2.out g h; omega)); have z_5 : w4.heap.size ≤ w5.heap.size := (by have := hgr.size; (try simp at this); omega); have o_n3_5 := Lib.hid ho; have lo_n3 := Lib.hid (own_lo o_n3_5.out); have hi_n3 := Lib.hid (own_hi o_n3_5.out); clear hgr o_u_4 r_o_4 r_P_4 r_Q_4 T_4 hown ho hloc o_n2_4 lo_n2 hi_n2))
        go_wp2_with fail
        have hRl : (([] : List FT) ++ [(key, t, [], Value.slice (some ⟨w3.heap.size, 0, none⟩) 0 0)] ++ ([] : List FT)).length = (((0) + 1) + 0) := by simp; try omega
        have HNE : Hid (NE (.slice a6 (((0) + 1) + 0) c6) (.slice (some ⟨w3.heap.size, 0, none⟩) 0 0)) := Lib.hid (fun g g9 h h9 => by have h1 := lo_n3.out g h; have h5 := iv_n3.out g h; simp only [Value.ownBlock, Option.some.injEq] at h9; omega)
        refine bodyPost_ret (v := .tuple #[.slice a6 (((0) + 1) + 0) c6, .bool true, .bool true]) (by simp [results, Try.results19, go_sem]) rfl ⟨([] : List FT) ++ [(key, t, [], Value.slice (some ⟨w3.heap.size, 0, none⟩) 0 0)] ++ ([] : List FT), a6, c6, true, true, ?_, by rw [hRl], ?_, (T_5.out)⟩
        · rw [fjoin_new HOK.out HMM.out, ← HM.out]; exact congrArg (fun l => (l, true, true)) (fins_map (j := 0) HPOS.out).symm
        · rw [hRl]; exact owf_mono (owf_ins (j := 0) (r_o_5.out) ((o_u_5.out)) (by omega) ((o_n3_5.out)) (by first | omega | (simp; done) | (simp; omega)) (by first | omega | (simp; done) | (simp; omega)) (by omega) (by omega) (by omega) HNE.out) (Nat.le_refl _) (Nat.le_refl _) (Nat.le_refl _)
    · have HCE := Lib.hid (fun m (hm : m < Ts.length) => (owf_cells r_o_2.out rfl m hm).1)
      have hcp : Ts.length ≤ cap1 := row_cap r_o_2.out.1
      go_wp2_with fail
      go_loop [10] (fun i => ∃ j : Nat, j ≤ Ts.length ∧ i = .int .i64 (j : Int) ∧ ∀ m, (h : m < j) → (hm : m < Ts.length) → (Ts[m]'hm).1 < key) (fun i => Ts.length - (intOf i).toNat)
      case atStart => exact ⟨0, Nat.zero_le _, rfl, fun m h => absurd h (by omega)⟩
      case round =>
        obtain ⟨j, hj9, rfl, hlo⟩ := hrel
        have HLO := Lib.hid hlo
        clear hlo
        by_cases hlt : j < Ts.length
        · have c9 := HCE.out j hlt
          by_cases hky : Ts[j].1 < key
          · have HKY := Lib.hid hky
            go_wp2
            go_round
            case rel => exact ⟨j + 1, by omega, by go_num, fun m h hm => by rcases Nat.lt_succ_iff_lt_or_eq.1 h with h | rfl; exact HLO.out m h hm; exact HKY.out⟩
            case measure => simp [intOf]; omega
          · have hcj : j < cap1 := by omega
            have r_P_2 := Lib.hid (rdf_take (owf_rdf r_o_2.out) hj9)
            have r_Q_2 := Lib.hid (rdf_drop (owf_rdf r_o_2.out) hj9 (j * 3) (cap1 - j) (.inl (by omega)) (by omega))
            have HPOS := Lib.hid (fpos_eq (Ts.map fl) key j (by simp; try omega) (fun m h hm => by simpa using HLO.out m h (by simpa using hm)) (fun h => by simpa using hky))
            have tok5 : True := trivial
            have tok4 : True := trivial
            have tok3 : True := trivial
            go_wp2_with (first | (at_builtin; have _t := tok3; refine wpList_append_rdx (by rfl) _ _ 25 rfl (w2.heap.size) 47 3 40 (.agg #[.int .i64 0, .int .i64 0, .slice none 0 0]) j0 Try.underlying25 hj hy0 hy1 hy2 rfl (by decide) (.slice (some ⟨w2.heap.size, 0, none⟩) 0 0) (0) ([]) rfl ((owf_made (w2) _ (w2.heap.size) (w2.heap.size) (by first | rfl | simp) (Nat.le_refl _)).1) _ _ _ (tcs ((Ts.take j))) rfl (rdp_x (rdp_b (r_P_2.out) (below_alloc _ _))) (tcs_one (fun t9 ht9 => HONE.out t9 (by first | exact List.mem_of_mem_take ht9 | exact absurd ht9 (by simp) | exact ht9))) (by first | (unfold maxLen; omega) | (unfold maxLen; simp; omega)) (by first | omega | (simp; omega)) (by first | omega | (simp; done) | (simp; omega)) ?_; intro v3 w3 hown hgr hloc; clear tok3; have ho : w3.ownsRow (w2.heap.size) 47 3 v3 (j) (tcs ((Ts.take j))) := (by rw [Nat.zero_add, List.nil_append] at hown; exact hown); obtain ⟨a4, c4, hv⟩ := own_shape ho; subst hv; have iv_n1 : Hid (∀ g, (Value.slice a4 (j) c4).ownBlock = some g → (w2.heap.size ≤ g ∧ g < w2.heap.size + 1) ∨ (w2.heap.size + 1 ≤ g ∧ g < w3.heap.size)) := Lib.hid (fun g h => by have h9 := hgr.size; have h7 := own_hi ho g h; rcases hloc with h8 | h8 <;> rw [h8] at h <;> (simp only [Value.ownBlock, Option.some.injEq] at h; (try simp at h9); (try simp at h); omega)); have r_o_3 := Lib.hid (owf_row (owf_b (r_o_2.out) (below_alloc _ _)) hgr (fun g h => by simp only [Value.ownBlock, Option.some.injEq] at h; omega)); have r_P_3 := Lib.hid (rdp_row (rdp_b (r_P_2.out) (below_alloc _ _)) hgr (fun g h => by simp only [Value.ownBlock, Option.some.injEq] at h; omega)); have r_Q_3 := Lib.hid (rdp_row (rdp_b (r_Q_2.out) (below_alloc _ _)) hgr (fun g h => by simp only [Value.ownBlock, Option.some.injEq] at h; omega)); have T_3 := Lib.hid (below_gr (below_trans (T_2.out) (below_alloc _ _)) (by first | omega | (simp; done) | (simp; omega)) hgr (fun g h => by simp only [Value.ownBlock, Option.some.injEq] at h; omega)); have z_3 : w2.heap.size + 1 ≤ w3.heap.size := (by have := hgr.size; (try simp at this); omega); have o_n1_3 := Lib.hid ho; have lo_n1 := Lib.hid (own_lo o_n1_3.out); have hi_n1 := Lib.hid (own_hi o_n1_3.out); clear hgr r_o_2 r_P_2 r_Q_2 T_2 hown ho hloc) | (at_builtin; have _t := tok4; refine wpList_append_rdx (by rfl) _ _ 25 rfl (w2.heap.size) 47 3 40 (.agg #[.int .i64 0, .int .i64 0, .slice none 0 0]) j0 Try.underlying25 hj hy0 hy1 hy2 rfl (by decide) (.slice a4 (j) c4) ((j)) (tcs ((Ts.take j))) rfl (own_below (own_below (o_n1_3.out) (below_alloc _ _)) (below_alloc _ _)) _ _ _ (tcs ([(key, t, [], Value.slice (some ⟨w3.heap.size, 0, none⟩) 0 0)])) rfl (rdx_lit3 _ _ _ _ _ _ (w3.heap.size + 1) (by first | rfl | (simp; done))) (tcs_one1 _ _ _ _ _ _) (by first | (unfold maxLen; omega) | (unfold maxLen; simp; omega)) (by first | omega | (simp; omega)) (by first | omega | (simp; done) | (simp; omega)) ?_; intro v4 w4 hown hgr hloc; clear tok4; have ho : w4.ownsRow (w2.heap.size) 47 3 v4 ((j) + 1) (tcs ((Ts.take j) ++ [(key, t, [], Value.slice (some ⟨w3.heap.size, 0, none⟩) 0 0)])) := (by rw [tcs_append]; exact hown); obtain ⟨a5, c5, hv⟩ := own_shape ho; subst hv; have iv_n2 : Hid (∀ g, (Value.slice a5 ((j) + 1) c5).ownBlock = some g → (w2.heap.size ≤ g ∧ g < w2.heap.size + 1) ∨ (w2.heap.size + 1 ≤ g ∧ g < w3.heap.size) ∨ (w3.heap.size + 2 ≤ g ∧ g < w4.heap.size)) := Lib.hid (fun g h => by have h9 := hgr.size; have h7 := own_hi ho g h; rcases hloc with h8 | h8 <;> rw [h8] at h <;> first | (have h1 := lo_n1.out g h; have h2 := hi_n1.out g h; have h5 := iv_n1.out g h; (try simp at h9); omega) | (injection h with h; (try simp at h9); (try simp at h); omega)); have r_o_4 := Lib.hid (owf_row (owf_b (owf_b (r_o_3.out) (below_alloc _ _)) (below_alloc _ _)) hgr (fun g h => by have h1 := lo_n1.out g h; have h2 := hi_n1.out g h; have h5 := iv_n1.out g h; omega)); have r_P_4 := Lib.hid (rdp_row (rdp_b (rdp_b (r_P_3.out) (below_alloc _ _)) (below_alloc _ _)) hgr (fun g h => by have h1 := lo_n1.out g h; have h2 := hi_n1.out g h; have h5 := iv_n1.out g h; omega)); have r_Q_4 := Lib.hid (rdp_row (rdp_b (rdp_b (r_Q_3.out) (below_alloc _ _)) (below_alloc _ _)) hgr (fun g h => by have h1 := lo_n1.out g h; have h2 := hi_n1.out g h; have h5 := iv_n1.out g h; omega)); have T_4 := Lib.hid (below_gr (below_trans (below_trans (T_3.out) (below_alloc _ _)) (below_alloc _ _)) (by first | omega | (simp; done) | (simp; omega)) hgr (fun g h => by have h1 := lo_n1.out g h; have h2 := hi_n1.out g h; have h5 := iv_n1.out g h; omega)); have z_4 : w3.heap.size + 2 ≤ w4.heap.size := (by have := hgr.size; (try simp at this); omega); have o_n2_4 := Lib.hid ho; have lo_n2 := Lib.hid (own_lo o_n2_4.out); have hi_n2 := Lib.hid (own_hi o_n2_4.out); have o_u_4 := Lib.hid (own_gr (own_below (ow_made_at w3 w3.heap.size w3.heap.size rfl (Nat.le_refl _)) (below_alloc _ _)) hgr (fun g g' h h' => by have h1 := lo_n1.out g h; have h2 := hi_n1.out g h; simp only [Value.ownBlock, Option.some.injEq] at h'; omega)); have lo_u := Lib.hid (own_lo o_u_4.out); have hi_u := Lib.hid (own_hi o_u_4.out); clear hgr r_o_3 r_P_3 r_Q_3 T_3 hown ho hloc o_n1_3 lo_n1 hi_n1) | (at_builtin; have _t := tok5; refine wpList_append_rdx (by rfl) _ _ 25 rfl (w2.heap.size) 47 3 40 (.agg #[.int .i64 0, .int .i64 0, .slice none 0 0]) j0 Try.underlying25 hj hy0 hy1 hy2 rfl (by decide) (.slice a5 ((j) + 1) c5) (((j) + 1)) (tcs ((Ts.take j) ++ [(key, t, [], Value.slice (some ⟨w3.heap.size, 0, none⟩) 0 0)])) rfl (o_n2_4.out) _ _ _ (tcs ((Ts.drop j))) rfl (rdp_x (r_Q_4.out)) (tcs_one (fun t9 ht9 => HONE.out t9 (by first | exact List.mem_of_mem_drop ht9 | exact absurd ht9 (by simp) | exact ht9))) (by first | (unfold maxLen; omega) | (unfold maxLen; simp; omega)) (by first | omega | (simp; omega)) (by first | omega | (simp; done) | (simp; omega)) ?_; intro v5 w5 hown hgr hloc; clear tok5; have ho : w5.ownsRow (w2.heap.size) 47 3 v5 (((j) + 1) + (Ts.length - j)) (tcs ((Ts.take j) ++ [(key, t, [], Value.slice (some ⟨w3.heap.size, 0, none⟩) 0 0)] ++ (Ts.drop j))) := (by rw [tcs_append]; exact hown); obtain ⟨a6, c6, hv⟩ := own_shape ho; subst hv; have iv_n3 : Hid (∀ g, (Value.slice a6 (((j) + 1) + (Ts.length - j)) c6).ownBlock = some g → (w2.heap.size ≤ g ∧ g < w2.heap.size + 1) ∨ (w2.heap.size + 1 ≤ g ∧ g < w3.heap.size) ∨ (w3.heap.size + 2 ≤ g ∧ g < w4.heap.size) ∨ (w4.heap.size ≤ g ∧ g < w5.heap.size)) := Lib.hid (fun g h => by have h9 := hgr.size; have h7 := own_hi ho g h; rcases hloc with h8 | h8 <;> rw [h8] at h <;> first | (have h1 := lo_n2.out g h; have h2 := hi_n2.out g h; have h5 := iv_n2.out g h; (try simp at h9); omega) | (injection h with h; (try simp at h9); (try simp at h); omega)); have o_u_5 := Lib.hid (own_gr (o_u_4.out) hgr (fun g g' h h' => by have h1 := lo_n2.out g h; have h2 := hi_n2.out g h; have h5 := iv_n2.out g h; have h3 := lo_u.out g' h'; have h4 := hi_u.out g' h'; simp only [Value.ownBlock, Option.some.injEq] at h'; omega)); have r_o_5 := Lib.hid (owf_row (r_o_4.out) hgr (fun g h => by have h1 := lo_n2.out g h; have h2 := hi_n2.out g h; have h5 := iv_n2.out g h; omega)); have r_P_5 := Lib.hid (rdp_row (r_P_4.out) hgr (fun g h => by have h1 := lo_n2.out g h; have h2 := hi_n2.out g h; have h5 := iv_n2.out g h; omega)); have r_Q_5 := Lib.hid (rdp_row (r_Q_4.out) hgr (fun g h => by have h1 := lo_n2.out g h; have h2 := hi_n2.out g h; have h5 := iv_n2.out g h; omega)); have T_5 := Lib.hid (below_gr (T_4.out) (by first | omega | (simp; done) | (simp; omega)) hgr (fun g h => by have h1 := lo_n2.out g h; have h2 := hi_n2.out g h; have h5 := iv_n2.out g h; omega)); have z_5 : w4.heap.size ≤ w5.heap.size := (by have := hgr.size; (try simp at this); omega); have o_n3_5 := Lib.hid ho; have lo_n3 := Lib.hid (own_lo o_n3_5.out); have hi_n3 := Lib.hid (own_hi o_n3_5.out); clear hgr o_u_4 r_o_4 r_P_4 r_Q_4 T_4 hown ho hloc o_n2_4 lo_n2 hi_n2))
            go_wp2_with fail
            have hRl : ((Ts.take j) ++ [(key, t, [], Value.slice (some ⟨w3.heap.size, 0, none⟩) 0 0)] ++ (Ts.drop j)).length = (((j) + 1) + (Ts.length - j)) := by simp; try omega
            have HNE : Hid (NE (.slice a6 (((j) + 1) + (Ts.length - j)) c6) (.slice (some ⟨w3.heap.size, 0, none⟩) 0 0)) := Lib.hid (fun g g9 h h9 => by have h1 := lo_n3.out g h; have h5 := iv_n3.out g h; simp only [Value.ownBlock, Option.some.injEq] at h9; omega)
            refine bodyPost_ret (v := .tuple #[.slice a6 (((j) + 1) + (Ts.length - j)) c6, .bool true, .bool true]) (by simp [results, Try.results19, go_sem]) rfl ⟨(Ts.take j) ++ [(key, t, [], Value.slice (some ⟨w3.heap.size, 0, none⟩) 0 0)] ++ (Ts.drop j), a6, c6, true, true, ?_, by rw [hRl], ?_, (T_5.out)⟩
            · rw [fjoin_new HOK.out HMM.out, ← HM.out]; exact congrArg (fun l => (l, true, true)) (fins_map (j := j) HPOS.out).symm
            · rw [hRl]; exact owf_mono (owf_ins (j := j) (r_o_5.out) ((o_u_5.out)) (by omega) ((o_n3_5.out)) (by first | omega | (simp; done) | (simp; omega)) (by first | omega | (simp; done) | (simp; omega)) (by omega) (by omega) (by omega) HNE.out) (Nat.le_refl _) (Nat.le_refl _) (Nat.le_refl _)
        · obtain rfl : j = Ts.length := by omega
          clear hlt
          by_cases hcj : cap1 = Ts.length
          · subst hcj
            have r_P_2 := Lib.hid (rdf_take (owf_rdf r_o_2.out) (Nat.le_refl _))
            have r_Q_2 := Lib.hid ((by have h := rdf_drop (j := Ts.length) (owf_rdf r_o_2.out) (Nat.le_refl _) 0 0 (.inr rfl) (by omega); rwa [Nat.sub_self] at h))
            have HPOS := Lib.hid (fpos_eq (Ts.map fl) key Ts.length (by simp; try omega) (fun m h hm => by simpa using HLO.out m h (by simpa using hm)) (fun h => absurd h (by simp)))
            have tok5 : True := trivial
            have tok4 : True := trivial
            have tok3 : True := trivial
            go_wp2_with (first | (at_builtin; have _t := tok3; refine wpList_append_rdx (by rfl) _ _ 25 rfl (w2.heap.size) 47 3 40 (.agg #[.int .i64 0, .int .i64 0, .slice none 0 0]) j0 Try.underlying25 hj hy0 hy1 hy2 rfl (by decide) (.slice (some ⟨w2.heap.size, 0, none⟩) 0 0) (0) ([]) rfl ((owf_made (w2) _ (w2.heap.size) (w2.heap.size) (by first | rfl | simp) (Nat.le_refl _)).1) _ _ _ (tcs ((Ts.take Ts.length))) rfl (rdp_x (rdp_b (r_P_2.out) (below_alloc _ _))) (tcs_one (fun t9 ht9 => HONE.out t9 (by first | exact List.mem_of_mem_take ht9 | exact absurd ht9 (by simp) | exact ht9))) (by first | (unfold maxLen; omega) | (unfold maxLen; simp; omega)) (by first | omega | (simp; omega)) (by first | omega | (simp; done) | (simp; omega)) ?_; intro v3 w3 hown hgr hloc; clear tok3; have ho : w3.ownsRow (w2.heap.size) 47 3 v3 (Ts.length) (tcs ((Ts.take Ts.length))) := (by rw [Nat.zero_add, List.nil_append] at hown; exact hown); obtain ⟨a4, c4, hv⟩ := own_shape ho; subst hv; have iv_n1 : Hid (∀ g, (Value.slice a4 (Ts.length) c4).ownBlock = some g → (w2.heap.size ≤ g ∧ g < w2.heap.size + 1) ∨ (w2.heap.size + 1 ≤ g ∧ g < w3.heap.size)) := Lib.hid (fun g h => by have h9 := hgr.size; have h7 := own_hi ho g h; rcases hloc with h8 | h8 <;> rw [h8] at h <;> (simp only [Value.ownBlock, Option.some.injEq] at h; (try simp at h9); (try simp at h); omega)); have r_o_3 := Lib.hid (owf_row (owf_b (r_o_2.out) (below_alloc _ _)) hgr (fun g h => by simp only [Value.ownBlock, Option.some.injEq] at h; omega)); have r_P_3 := Lib.hid (rdp_row (rdp_b (r_P_2.out) (below_alloc _ _)) hgr (fun g h => by simp only [Value.ownBlock, Option.some.injEq] at h; omega)); have r_Q_3 := Lib.hid (rdp_row (rdp_b (r_Q_2.out) (below_alloc _ _)) hgr (fun g h => by simp only [Value.ownBlock, Option.some.injEq] at h; omega)); have T_3 := Lib.hid (below_gr (below_trans (T_2.out) (below_alloc _ _)) (by first | omega | (simp; done) | (simp; omega)) hgr (fun g h => by simp only [Value.ownBlock, Option.some.injEq] at h; omega)); have z_3 : w2.heap.size + 1 ≤ w3.heap.size := (by have := hgr.size; (try simp at this); omega); have o_n1_3 := Lib.hid ho; have lo_n1 := Lib.hid (own_lo o_n1_3.out); have hi_n1 := Lib.hid (own_hi o_n1_3.out); clear hgr r_o_2 r_P_2 r_Q_2 T_2 hown ho hloc) | (at_builtin; have _t := tok4; refine wpList_append_rdx (by rfl) _ _ 25 rfl (w2.heap.size) 47 3 40 (.agg #[.int .i64 0, .int .i64 0, .slice none 0 0]) j0 Try.underlying25 hj hy0 hy1 hy2 rfl (by decide) (.slice a4 (Ts.length) c4) ((Ts.length)) (tcs ((Ts.take Ts.length))) rfl (own_below (own_below (o_n1_3.out) (below_alloc _ _)) (below_alloc _ _)) _ _ _ (tcs ([(key, t, [], Value.slice (some ⟨w3.heap.size, 0, none⟩) 0 0)])) rfl (rdx_lit3 _ _ _ _ _ _ (w3.heap.size + 1) (by first | rfl | (simp; done))) (tcs_one1 _ _ _ _ _ _) (by first | (unfold maxLen; omega) | (unfold maxLen; simp; omega)) (by first | omega | (simp; omega)) (by first | omega | (simp; done) | (simp; omega)) ?_; intro v4 w4 hown hgr hloc; clear tok4; have ho : w4.ownsRow (w2.heap.size) 47 3 v4 ((Ts.length) + 1) (tcs ((Ts.take Ts.length) ++ [(key, t, [], Value.slice (some ⟨w3.heap.size, 0, none⟩) 0 0)])) := (by rw [tcs_append]; exact hown); obtain ⟨a5, c5, hv⟩ := own_shape ho; subst hv; have iv_n2 : Hid (∀ g, (Value.slice a5 ((Ts.length) + 1) c5).ownBlock = some g → (w2.heap.size ≤ g ∧ g < w2.heap.size + 1) ∨ (w2.heap.size + 1 ≤ g ∧ g < w3.heap.size) ∨ (w3.heap.size + 2 ≤ g ∧ g < w4.heap.size)) := Lib.hid (fun g h => by have h9 := hgr.size; have h7 := own_hi ho g h; rcases hloc with h8 | h8 <;> rw [h8] at h <;> first | (have h1 := lo_n1.out g h; have h2 := hi_n1.out g h; have h5 := iv_n1.out g h; (try simp at h9); omega) | (injection h with h; (try simp at h9); (try simp at h); omega)); have r_o_4 := Lib.hid (owf_row (owf_b (owf_b (r_o_3.out) (below_alloc _ _)) (below_alloc _ _)) hgr (fun g h => by have h1 := lo_n1.out g h; have h2 := hi_n1.out g h; have h5 := iv_n1.out g h; omega)); have r_P_4 := Lib.hid (rdp_row (rdp_b (rdp_b (r_P_3.out) (below_alloc _ _)) (below_alloc _ _)) hgr (fun g h => by have h1 := lo_n1.out g h; have h2 := hi_n1.out g h; have h5 := iv_n1.out g h; omega)); have r_Q_4 := Lib.hid (rdp_row (rdp_b (rdp_b (r_Q_3.out) (below_alloc _ _)) (below_alloc _ _)) hgr (fun g h => by have h1 := lo_n1.out g h; have h2 := hi_n1.out g h; have h5 := iv_n1.out g h; omega)); have T_4 := Lib.hid (below_gr (below_trans (below_trans (T_3.out) (below_alloc _ _)) (below_alloc _ _)) (by first | omega | (simp; done) | (simp; omega)) hgr (fun g h => by have h1 := lo_n1.out g h; have h2 := hi_n1.out g h; have h5 := iv_n1.out g h; omega)); have z_4 : w3.heap.size + 2 ≤ w4.heap.size := (by have := hgr.size; (try simp at this); omega); have o_n2_4 := Lib.hid ho; have lo_n2 := Lib.hid (own_lo o_n2_4.out); have hi_n2 := Lib.hid (own_hi o_n2_4.out); have o_u_4 := Lib.hid (own_gr (own_below (ow_made_at w3 w3.heap.size w3.heap.size rfl (Nat.le_refl _)) (below_alloc _ _)) hgr (fun g g' h h' => by have h1 := lo_n1.out g h; have h2 := hi_n1.out g h; simp only [Value.ownBlock, Option.some.injEq] at h'; omega)); have lo_u := Lib.hid (own_lo o_u_4.out); have hi_u := Lib.hid (own_hi o_u_4.out); clear hgr r_o_3 r_P_3 r_Q_3 T_3 hown ho hloc o_n1_3 lo_n1 hi_n1) | (at_builtin; have _t := tok5; refine wpList_append_rdx (by rfl) _ _ 25 rfl (w2.heap.size) 47 3 40 (.agg #[.int .i64 0, .int .i64 0, .slice none 0 0]) j0 Try.underlying25 hj hy0 hy1 hy2 rfl (by decide) (.slice a5 ((Ts.length) + 1) c5) (((Ts.length) + 1)) (tcs ((Ts.take Ts.length) ++ [(key, t, [], Value.slice (some ⟨w3.heap.size, 0, none⟩) 0 0)])) rfl (o_n2_4.out) _ _ _ (tcs ((Ts.drop Ts.length))) rfl (rdp_x (r_Q_4.out)) (tcs_one (fun t9 ht9 => HONE.out t9 (by first | exact List.mem_of_mem_drop ht9 | exact absurd ht9 (by simp) | exact ht9))) (by first | (unfold maxLen; omega) | (unfold maxLen; simp; omega)) (by first | omega | (simp; omega)) (by first | omega | (simp; done) | (simp; omega)) ?_; intro v5 w5 hown hgr hloc; clear tok5; have ho : w5.ownsRow (w2.heap.size) 47 3 v5 (((Ts.length) + 1) + 0) (tcs ((Ts.take Ts.length) ++ [(key, t, [], Value.slice (some ⟨w3.heap.size, 0, none⟩) 0 0)] ++ (Ts.drop Ts.length))) := (by rw [tcs_append]; exact hown); obtain ⟨a6, c6, hv⟩ := own_shape ho; subst hv; have iv_n3 : Hid (∀ g, (Value.slice a6 (((Ts.length) + 1) + 0) c6).ownBlock = some g → (w2.heap.size ≤ g ∧ g < w2.heap.size + 1) ∨ (w2.heap.size + 1 ≤ g ∧ g < w3.heap.size) ∨ (w3.heap.size + 2 ≤ g ∧ g < w4.heap.size) ∨ (w4.heap.size ≤ g ∧ g < w5.heap.size)) := Lib.hid (fun g h => by have h9 := hgr.size; have h7 := own_hi ho g h; rcases hloc with h8 | h8 <;> rw [h8] at h <;> first | (have h1 := lo_n2.out g h; have h2 := hi_n2.out g h; have h5 := iv_n2.out g h; (try simp at h9); omega) | (injection h with h; (try simp at h9); (try simp at h); omega)); have o_u_5 := Lib.hid (own_gr (o_u_4.out) hgr (fun g g' h h' => by have h1 := lo_n2.out g h; have h2 := hi_n2.out g h; have h5 := iv_n2.out g h; have h3 := lo_u.out g' h'; have h4 := hi_u.out g' h'; simp only [Value.ownBlock, Option.some.injEq] at h'; omega)); have r_o_5 := Lib.hid (owf_row (r_o_4.out) hgr (fun g h => by have h1 := lo_n2.out g h; have h2 := hi_n2.out g h; have h5 := iv_n2.out g h; omega)); have r_P_5 := Lib.hid (rdp_row (r_P_4.out) hgr (fun g h => by have h1 := lo_n2.out g h; have h2 := hi_n2.out g h; have h5 := iv_n2.out g h; omega)); have r_Q_5 := Lib.hid (rdp_row (r_Q_4.out) hgr (fun g h => by have h1 := lo_n2.out g h; have h2 := hi_n2.out g h; have h5 := iv_n2.out g h; omega)); have T_5 := Lib.hid (below_gr (T_4.out) (by first | omega | (simp; done) | (simp; omega)) hgr (fun g h => by have h1 := lo_n2.out g h; have h2 := hi_n2.out g h; have h5 := iv_n2.out g h; omega)); have z_5 : w4.heap.size ≤ w5.heap.size := (by have := hgr.size; (try simp at this); omega); have o_n3_5 := Lib.hid ho; have lo_n3 := Lib.hid (own_lo o_n3_5.out); have hi_n3 := Lib.hid (own_hi o_n3_5.out); clear hgr o_u_4 r_o_4 r_P_4 r_Q_4 T_4 hown ho hloc o_n2_4 lo_n2 hi_n2))
            go_wp2_with fail
            have hRl : ((Ts.take Ts.length) ++ [(key, t, [], Value.slice (some ⟨w3.heap.size, 0, none⟩) 0 0)] ++ (Ts.drop Ts.length)).length = (((Ts.length) + 1) + 0) := by simp; try omega
            have HNE : Hid (NE (.slice a6 (((Ts.length) + 1) + 0) c6) (.slice (some ⟨w3.heap.size, 0, none⟩) 0 0)) := Lib.hid (fun g g9 h h9 => by have h1 := lo_n3.out g h; have h5 := iv_n3.out g h; simp only [Value.ownBlock, Option.some.injEq] at h9; omega)
            refine bodyPost_ret (v := .tuple #[.slice a6 (((Ts.length) + 1) + 0) c6, .bool true, .bool true]) (by simp [results, Try.results19, go_sem]) rfl ⟨(Ts.take Ts.length) ++ [(key, t, [], Value.slice (some ⟨w3.heap.size, 0, none⟩) 0 0)] ++ (Ts.drop Ts.length), a6, c6, true, true, ?_, by rw [hRl], ?_, (T_5.out)⟩
            · rw [fjoin_new HOK.out HMM.out, ← HM.out]; exact congrArg (fun l => (l, true, true)) (fins_map (j := Ts.length) HPOS.out).symm
            · rw [hRl]; exact owf_mono (owf_ins (j := Ts.length) (r_o_5.out) ((o_u_5.out)) (by omega) ((o_n3_5.out)) (by first | omega | (simp; done) | (simp; omega)) (by first | omega | (simp; done) | (simp; omega)) (by omega) (by omega) (by omega) HNE.out) (Nat.le_refl _) (Nat.le_refl _) (Nat.le_refl _)
          · have hcj2 : Ts.length < cap1 := by omega
            clear hcj
            have r_P_2 := Lib.hid (rdf_take (owf_rdf r_o_2.out) (Nat.le_refl _))
            have r_Q_2 := Lib.hid ((by have h := rdf_drop (j := Ts.length) (owf_rdf r_o_2.out) (Nat.le_refl _) (Ts.length * 3) (cap1 - Ts.length) (.inr rfl) (by omega); rwa [Nat.sub_self] at h))
            have HPOS := Lib.hid (fpos_eq (Ts.map fl) key Ts.length (by simp; try omega) (fun m h hm => by simpa using HLO.out m h (by simpa using hm)) (fun h => absurd h (by simp)))
            have tok5 : True := trivial
            have tok4 : True := trivial
            have tok3 : True := trivial
            go_wp2_with (first | (at_builtin; have _t := tok3; refine wpList_append_rdx (by rfl) _ _ 25 rfl (w2.heap.size) 47 3 40 (.agg #[.int .i64 0, .int .i64 0, .slice none 0 0]) j0 Try.underlying25 hj hy0 hy1 hy2 rfl (by decide) (.slice (some ⟨w2.heap.size, 0, none⟩) 0 0) (0) ([]) rfl ((owf_made (w2) _ (w2.heap.size) (w2.heap.size) (by first | rfl | simp) (Nat.le_refl _)).1) _ _ _ (tcs ((Ts.take Ts.length))) rfl (rdp_x (rdp_b (r_P_2.out) (below_alloc _ _))) (tcs_one (fun t9 ht9 => HONE.out t9 (by first | exact List.mem_of_mem_take ht9 | exact absurd ht9 (by simp) | exact ht9))) (by first | (unfold maxLen; omega) | (unfold maxLen; simp; omega)) (by first | omega | (simp; omega)) (by first | omega | (simp; done) | (simp; omega)) ?_; intro v3 w3 hown hgr hloc; clear tok3; have ho : w3.ownsRow (w2.heap.size) 47 3 v3 (Ts.length) (tcs ((Ts.take Ts.length))) := (by rw [Nat.zero_add, List.nil_append] at hown; exact hown); obtain ⟨a4, c4, hv⟩ := own_shape ho; subst hv; have iv_n1 : Hid (∀ g, (Value.slice a4 (Ts.length) c4).ownBlock = some g → (w2.heap.size ≤ g ∧ g < w2.heap.size + 1) ∨ (w2.heap.size + 1 ≤ g ∧ g < w3.heap.size)) := Lib.hid (fun g h => by have h9 := hgr.size; have h7 := own_hi ho g h; rcases hloc with h8 | h8 <;> rw [h8] at h <;> (simp only [Value.ownBlock, Option.some.injEq] at h; (try simp at h9); (try simp at h); omega)); have r_o_3 := Lib.hid (owf_row (owf_b (r_o_2.out) (below_alloc _ _)) hgr (fun g h => by simp only [Value.ownBlock, Option.some.injEq] at h; omega)); have r_P_3 := Lib.hid (rdp_row (rdp_b (r_P_2.out) (below_alloc _ _)) hgr (fun g h => by simp only [Value.ownBlock, Option.some.injEq] at h; omega)); have r_Q_3 := Lib.hid (rdp_row (rdp_b (r_Q_2.out) (below_alloc _ _)) hgr (fun g h => by simp only [Value.ownBlock, Option.some.injEq] at h; omega)); have T_3 := Lib.hid (below_gr (below_trans (T_2.out) (below_alloc _ _)) (by first | omega | (simp; done) | (simp; omega)) hgr (fun g h => by simp only [Value.ownBlock, Option.some.injEq] at h; omega)); have z_3 : w2.heap.size + 1 ≤ w3.heap.size := (by have := hgr.size; (try simp at this); omega); have o_n1_3 := Lib.hid ho; have lo_n1 := Lib.hid (own_lo o_n1_3.out); have hi_n1 := Lib.hid (own_hi o_n1_3.out); clear hgr r_o_2 r_P_2 r_Q_2 T_2 hown ho hloc) | (at_builtin; have _t := tok4; refine wpList_append_rdx (by rfl) _ _ 25 rfl (w2.heap.size) 47 3 40 (.agg #[.int .i64 0, .int .i64 0, .slice none 0 0]) j0 Try.underlying25 hj hy0 hy1 hy2 rfl (by decide) (.slice a4 (Ts.length) c4) ((Ts.length)) (tcs ((Ts.take Ts.length))) rfl (own_below (own_below (o_n1_3.out) (below_alloc _ _)) (below_alloc _ _)) _ _ _ (tcs ([(key, t, [], Value.slice (some ⟨w3.heap.size, 0, none⟩) 0 0)])) rfl (rdx_lit3 _ _ _ _ _ _ (w3.heap.size + 1) (by first | rfl | (simp; done))) (tcs_one1 _ _ _ _ _ _) (by first | (unfold maxLen; omega) | (unfold maxLen; simp; omega)) (by first | omega | (simp; omega)) (by first | omega | (simp; done) | (simp; omega)) ?_; intro v4 w4 hown hgr hloc; clear tok4; have ho : w4.ownsRow (w2.heap.size) 47 3 v4 ((Ts.length) + 1) (tcs ((Ts.take Ts.length) ++ [(key, t, [], Value.slice (some ⟨w3.heap.size, 0, none⟩) 0 0)])) := (by rw [tcs_append]; exact hown); obtain ⟨a5, c5, hv⟩ := own_shape ho; subst hv; have iv_n2 : Hid (∀ g, (Value.slice a5 ((Ts.length) + 1) c5).ownBlock = some g → (w2.heap.size ≤ g ∧ g < w2.heap.size + 1) ∨ (w2.heap.size + 1 ≤ g ∧ g < w3.heap.size) ∨ (w3.heap.size + 2 ≤ g ∧ g < w4.heap.size)) := Lib.hid (fun g h => by have h9 := hgr.size; have h7 := own_hi ho g h; rcases hloc with h8 | h8 <;> rw [h8] at h <;> first | (have h1 := lo_n1.out g h; have h2 := hi_n1.out g h; have h5 := iv_n1.out g h; (try simp at h9); omega) | (injection h with h; (try simp at h9); (try simp at h); omega)); have r_o_4 := Lib.hid (owf_row (owf_b (owf_b (r_o_3.out) (below_alloc _ _)) (below_alloc _ _)) hgr (fun g h => by have h1 := lo_n1.out g h; have h2 := hi_n1.out g h; have h5 := iv_n1.out g h; omega)); have r_P_4 := Lib.hid (rdp_row (rdp_b (rdp_b (r_P_3.out) (below_alloc _ _)) (below_alloc _ _)) hgr (fun g h => by have h1 := lo_n1.out g h; have h2 := hi_n1.out g h; have h5 := iv_n1.out g h; omega)); have r_Q_4 := Lib.hid (rdp_row (rdp_b (rdp_b (r_Q_3.out) (below_alloc _ _)) (below_alloc _ _)) hgr (fun g h => by have h1 := lo_n1.out g h; have h2 := hi_n1.out g h; have h5 := iv_n1.out g h; omega)); have T_4 := Lib.hid (below_gr (below_trans (below_trans (T_3.out) (below_alloc _ _)) (below_alloc _ _)) (by first | omega | (simp; done) | (simp; omega)) hgr (fun g h => by have h1 := lo_n1.out g h; have h2 := hi_n1.out g h; have h5 := iv_n1.out g h; omega)); have z_4 : w3.heap.size + 2 ≤ w4.heap.size := (by have := hgr.size; (try simp at this); omega); have o_n2_4 := Lib.hid ho; have lo_n2 := Lib.hid (own_lo o_n2_4.out); have hi_n2 := Lib.hid (own_hi o_n2_4.out); have o_u_4 := Lib.hid (own_gr (own_below (ow_made_at w3 w3.heap.size w3.heap.size rfl (Nat.le_refl _)) (below_alloc _ _)) hgr (fun g g' h h' => by have h1 := lo_n1.out g h; have h2 := hi_n1.out g h; simp only [Value.ownBlock, Option.some.injEq] at h'; omega)); have lo_u := Lib.hid (own_lo o_u_4.out); have hi_u := Lib.hid (own_hi o_u_4.out); clear hgr r_o_3 r_P_3 r_Q_3 T_3 hown ho hloc o_n1_3 lo_n1 hi_n1) | (at_builtin; have _t := tok5; refine wpList_append_rdx (by rfl) _ _ 25 rfl (w2.heap.size) 47 3 40 (.agg #[.int .i64 0, .int .i64 0, .slice none 0 0]) j0 Try.underlying25 hj hy0 hy1 hy2 rfl (by decide) (.slice a5 ((Ts.length) + 1) c5) (((Ts.length) + 1)) (tcs ((Ts.take Ts.length) ++ [(key, t, [], Value.slice (some ⟨w3.heap.size, 0, none⟩) 0 0)])) rfl (o_n2_4.out) _ _ _ (tcs ((Ts.drop Ts.length))) rfl (rdp_x (r_Q_4.out)) (tcs_one (fun t9 ht9 => HONE.out t9 (by first | exact List.mem_of_mem_drop ht9 | exact absurd ht9 (by simp) | exact ht9))) (by first | (unfold maxLen; omega) | (unfold maxLen; simp; omega)) (by first | omega | (simp; omega)) (by first | omega | (simp; done) | (simp; omega)) ?_; intro v5 w5 hown hgr hloc; clear tok5; have ho : w5.ownsRow (w2.heap.size) 47 3 v5 (((Ts.length) + 1) + 0) (tcs ((Ts.take Ts.length) ++ [(key, t, [], Value.slice (some ⟨w3.heap.size, 0, none⟩) 0 0)] ++ (Ts.drop Ts.length))) := (by rw [tcs_append]; exact hown); obtain ⟨a6, c6, hv⟩ := own_shape ho; subst hv; have iv_n3 : Hid (∀ g, (Value.slice a6 (((Ts.length) + 1) + 0) c6).ownBlock = some g → (w2.heap.size ≤ g ∧ g < w2.heap.size + 1) ∨ (w2.heap.size + 1 ≤ g ∧ g < w3.heap.size) ∨ (w3.heap.size + 2 ≤ g ∧ g < w4.heap.size) ∨ (w4.heap.size ≤ g ∧ g < w5.heap.size)) := Lib.hid (fun g h => by have h9 := hgr.size; have h7 := own_hi ho g h; rcases hloc with h8 | h8 <;> rw [h8] at h <;> first | (have h1 := lo_n2.out g h; have h2 := hi_n2.out g h; have h5 := iv_n2.out g h; (try simp at h9); omega) | (injection h with h; (try simp at h9); (try simp at h); omega)); have o_u_5 := Lib.hid (own_gr (o_u_4.out) hgr (fun g g' h h' => by have h1 := lo_n2.out g h; have h2 := hi_n2.out g h; have h5 := iv_n2.out g h; have h3 := lo_u.out g' h'; have h4 := hi_u.out g' h'; simp only [Value.ownBlock, Option.some.injEq] at h'; omega)); have r_o_5 := Lib.hid (owf_row (r_o_4.out) hgr (fun g h => by have h1 := lo_n2.out g h; have h2 := hi_n2.out g h; have h5 := iv_n2.out g h; omega)); have r_P_5 := Lib.hid (rdp_row (r_P_4.out) hgr (fun g h => by have h1 := lo_n2.out g h; have h2 := hi_n2.out g h; have h5 := iv_n2.out g h; omega)); have r_Q_5 := Lib.hid (rdp_row (r_Q_4.out) hgr (fun g h => by have h1 := lo_n2.out g h; have h2 := hi_n2.out g h; have h5 := iv_n2.out g h; omega)); have T_5 := Lib.hid (below_gr (T_4.out) (by first | omega | (simp; done) | (simp; omega)) hgr (fun g h => by have h1 := lo_n2.out g h; have h2 := hi_n2.out g h; have h5 := iv_n2.out g h; omega)); have z_5 : w4.heap.size ≤ w5.heap.size := (by have := hgr.size; (try simp at this); omega); have o_n3_5 := Lib.hid ho; have lo_n3 := Lib.hid (own_lo o_n3_5.out); have hi_n3 := Lib.hid (own_hi o_n3_5.out); clear hgr o_u_4 r_o_4 r_P_4 r_Q_4 T_4 hown ho hloc o_n2_4 lo_n2 hi_n2))
            go_wp2_with fail
            have hRl : ((Ts.take Ts.length) ++ [(key, t, [], Value.slice (some ⟨w3.heap.size, 0, none⟩) 0 0)] ++ (Ts.drop Ts.length)).length = (((Ts.length) + 1) + 0) := by simp; try omega
            have HNE : Hid (NE (.slice a6 (((Ts.length) + 1) + 0) c6) (.slice (some ⟨w3.heap.size, 0, none⟩) 0 0)) := Lib.hid (fun g g9 h h9 => by have h1 := lo_n3.out g h; have h5 := iv_n3.out g h; simp only [Value.ownBlock, Option.some.injEq] at h9; omega)
            refine bodyPost_ret (v := .tuple #[.slice a6 (((Ts.length) + 1) + 0) c6, .bool true, .bool true]) (by simp [results, Try.results19, go_sem]) rfl ⟨(Ts.take Ts.length) ++ [(key, t, [], Value.slice (some ⟨w3.heap.size, 0, none⟩) 0 0)] ++ (Ts.drop Ts.length), a6, c6, true, true, ?_, by rw [hRl], ?_, (T_5.out)⟩
            · rw [fjoin_new HOK.out HMM.out, ← HM.out]; exact congrArg (fun l => (l, true, true)) (fins_map (j := Ts.length) HPOS.out).symm
            · rw [hRl]; exact owf_mono (owf_ins (j := Ts.length) (r_o_5.out) ((o_u_5.out)) (by omega) ((o_n3_5.out)) (by first | omega | (simp; done) | (simp; omega)) (by first | omega | (simp; done) | (simp; omega)) (by omega) (by omega) (by omega) HNE.out) (Nat.le_refl _) (Nat.le_refl _) (Nat.le_refl _)
end Go.Proofs.Ytafpnkcdoeicgaa
