/- What l3Flights hands back. -/
import Derived.Test.YtafpnkcdoeicgaaJoinS
import Derived.Deep.RegionHeld3
import Derived.Deep.RegionLaw
import Derived.Deep.DrawnRows
namespace Go.Proofs.Ytafpnkcdoeicgaa
open Go.RowKit
attribute [local go_sem ↓] Go.wp_at_zero Go.wp_at_succ

theorem fsum_set {fs : List Fl} {k : Nat} (h : k < fs.length) (f : Fl) : fsum (fs.set k f) + fs[k].2.2.length = fsum fs + f.2.2.length := by
  induction fs generalizing k with
  | nil => simp at h
  | cons x xs ih =>
    cases k with
    | zero => simp [fsum]; omega
    | succ k => have := ih (k := k) (by simpa using h); simp [fsum] at this ⊢; omega
theorem fput_sum {fs : List Fl} {k : Nat} (h : k < fs.length) (t : Int) : (fput fs k t).length + fsum (fput fs k t) = fs.length + fsum fs + 1 := by
  unfold fput; rw [dif_pos h]
  have := fsum_set h (fs[k].1, fs[k].2.1, fs[k].2.2 ++ [t])
  simp at this ⊢; omega
theorem fins_sum (fs : List Fl) (key t : Int) : (fins fs key t).length + fsum (fins fs key t) = fs.length + fsum fs + 1 := by
  unfold fins
  have h := fsum_append (fs.take (fpos fs key)) (fs.drop (fpos fs key))
  rw [List.take_append_drop] at h
  have hl := congrArg List.length (List.take_append_drop (fpos fs key) fs)
  rw [fsum_append]
  simp [fsum] at hl ⊢; omega
theorem fjoin_sum (fs : List Fl) (key t : Int) : (fjoin fs key t).1.length + fsum (fjoin fs key t).1 ≤ fs.length + fsum fs + 1 := by
  unfold fjoin
  split
  · split
    · rename_i h
      exact Nat.le_of_eq (fput_sum (by have := List.idxOf_lt_length_of_mem h; rwa [keys_len] at this) t)
    · exact Nat.le_of_eq (fins_sum fs key t)
  · simp [fsum]
/-- At the head of l3Flights' loop. -/
def FdHead (w : World) (r N : Nat) (vo vi : Value) (wr : World) : Prop :=
  ∃ (Rs : List FT) (a : Option Addr) (cap C k j : Nat), vi = .int .i64 (k : Int) ∧ k + j ≤ 5 ∧ vo = .slice a Rs.length cap ∧ Rs.length + tsum Rs ≤ j ∧ OwF wr 47 w.heap.size C (.slice a Rs.length cap) Rs ∧ w.heap.size ≤ C ∧ C ≤ wr.heap.size ∧ Rdr wr r (N + 1 + 2 * j) ∧ w.grownBy wr (some r)
/-- Flights, drawn. -/
def FlD (w : World) (r N : Nat) (e : Ending) (w' : World) : Prop :=
  ∃ (Rs : List FT) (a : Option Addr) (cap : Nat), e = .returned (.slice a Rs.length cap) ∧ Rs.length + tsum Rs ≤ 6 ∧ RdF w' w.heap.size w'.heap.size (.slice a Rs.length cap) Rs ∧ Rdr w' r (N + 14) ∧ w.grownBy w' (some r)
theorem tsum_snoc (ts : List FT) (x : FT) : (ts ++ [x]).length + tsum (ts ++ [x]) = ts.length + tsum ts + 1 + x.2.2.1.length := by
  unfold tsum; rw [List.map_append, fsum_append]; simp [fsum]; omega
theorem tsum_put {ts : List FT} {k : Nat} (h : k < ts.length) (t : Int) (v : Value) : (ts.set k (ts[k].1, ts[k].2.1, fw ts[k] ++ [t], v)).length + tsum (ts.set k (ts[k].1, ts[k].2.1, fw ts[k] ++ [t], v)) = ts.length + tsum ts + 1 := by
  unfold tsum; rw [fput_map h]
  have := fput_sum (fs := ts.map fl) (k := k) (by simpa using h) t
  have e : (fput (ts.map fl) k t).length = ts.length := by unfold fput; rw [dif_pos (by simpa using h)]; simp
  simp at this ⊢; omega
set_option maxHeartbeats 4000000 in
set_option maxRecDepth 100000 in
theorem S_l3Flights (w : World) (r N : Nat) (hr : Rdr w r N) (hN : N ≤ 10000) :
    Calls Try.prog 59 #[.pointer (some ⟨r, 0, none⟩)] w (FlD w r N) := by
  obtain ⟨i0, hi, hz0, hz1, hz2⟩ := info_parts info3
  obtain ⟨j0, hj, hy0, hy1, hy2⟩ := info_parts infoF
  have R_0 := Lib.hid hr
  have hrw := rdr_lt hr
  clear hr
  go_enter Try.func59, Try.ntmps59
  have T_0 : Hid (w.grownBy w (some r)) := Lib.hid (gs_refl _ _)
  go_wp2_with fail
  (with_reducible refine (S_num _ r _ [3, 2, 5, 1, 0] (N) (rdr_b (rdr_b (R_0.out) (below_alloc _ _)) (below_alloc _ _)) (by omega) (rdb_lit _ #[.int .i64 3, .int .i64 2, .int .i64 5, .int .i64 1, .int .i64 0] [3, 2, 5, 1, 0] rfl (r + 1) (w.heap.size + 1) 5 (by first | rfl | simp) rfl (by first | omega | (simp; omega))) (by decide) (by decide)).mono ?_)
  rintro e w1 ⟨x, rfl, hx, hr1, hg⟩
  have R_1 := Lib.hid hr1
  have T_1 := Lib.hid (gs_trans (gs_trans (gs_trans (T_0.out) (gs_b (below_alloc _ _))) (gs_b (below_alloc _ _))) hg)
  have z_1 : w.heap.size + 2 ≤ w1.heap.size := (by have := hg.size; (try simp at this); omega)
  have hx4 : 0 ≤ x ∧ x ≤ 5 := by simp at hx; omega
  obtain ⟨k, rfl⟩ : ∃ k : Nat, x = k := ⟨x.toNat, by omega⟩
  have hk4 : k ≤ 5 := by omega
  have OF : Hid (OwF w1 47 w.heap.size (w.heap.size + 1) (.slice (some ⟨w.heap.size, 0, none⟩) 0 0) []) := Lib.hid (owf_gs (owf_b (owf_made w _ _ _ rfl (Nat.le_refl _)) (below_alloc _ _)) hg (.inl hrw))
  clear hx4 hx
  clear hg hr1 R_0 T_0
  go_wp2_with fail
  go_loopw [3, 4, 5, 6, 7] (fun vo vi _ _ _ wr => FdHead w r N vo vi wr) (fun _ i _ _ _ _ => (intOf i).toNat)
  case atStart => exact ⟨[], _, _, _, k, 0, rfl, by omega, rfl, by simp [tsum, fsum], OF.out, by omega, by omega, R_1.out, T_1.out⟩
  case round =>
    obtain ⟨Rs, a, cap, C, k, j, rfl, hkj, rfl, hsz, hof, hC0, hC1, hrd, hgr⟩ := hrel
    clear OF R_1 T_1
    obtain ⟨w10, rfl⟩ : ∃ wo : World, wo = wr := ⟨_, rfl⟩
    have hz10 := hgr.size
    have r_o_10 := Lib.hid hof
    have R_10 := Lib.hid hrd
    have T_10 := Lib.hid hgr
    clear hof hrd hgr
    by_cases hk : 0 < k
    · go_wp2_with fail
      (with_reducible refine (S_num _ r _ [1, 2, 5, 99] (N + 1 + 2 * j) (rdr_b (R_10.out) (below_alloc _ _)) (by omega) (rdb_lit _ #[.int .i64 1, .int .i64 2, .int .i64 5, .int .i64 99] [1, 2, 5, 99] rfl (r + 1) (w10.heap.size) 4 (by first | rfl | simp) rfl (by first | omega | (simp; omega))) (by decide) (by decide)).mono ?_)
      rintro e w11 ⟨x, rfl, hx, hr1, hg⟩
      have r_o_11 := Lib.hid (owf_gs (owf_b (r_o_10.out) (below_alloc _ _)) hg (by omega))
      have R_11 := Lib.hid hr1
      have T_11 := Lib.hid (gs_trans (gs_trans (T_10.out) (gs_b (below_alloc _ _))) hg)
      have z_11 : w10.heap.size + 1 ≤ w11.heap.size := (by have := hg.size; (try simp at this); omega)
      clear hg r_o_10 hr1 R_10 T_10 hx
      go_wp2_with fail
      (with_reducible refine (S_pick _ r _ _ (R_11.out) (by omega) (by omega)).mono ?_)
      rintro e w12 ⟨y, rfl, hy0, hy1, hr1, hg⟩
      have r_o_12 := Lib.hid (owf_gs (r_o_11.out) hg (by omega))
      have R_12 := Lib.hid hr1
      have T_12 := Lib.hid (gs_trans (T_11.out) hg)
      have z_12 : w11.heap.size ≤ w12.heap.size := (by have := hg.size; (try simp at this); omega)
      clear hg r_o_11 hr1 R_11 T_11 hy1
      go_wp2_with fail
      (with_reducible refine (S_JoinFlight _ _ _ _ Rs x y (owf_rdf (r_o_12.out)) (by omega)).mono ?_)
      rintro e w13 ⟨Qs, a2, cap2, f, ok, hjo, rfl, hof2, hb⟩
      have r_o_13 := Lib.hid (owf_b (r_o_12.out) hb)
      have R_13 := Lib.hid (rdr_b (R_12.out) hb)
      have T_13 := Lib.hid (gs_trans (T_12.out) (gs_b hb))
      have z_13 : w12.heap.size ≤ w13.heap.size := (by have := hb.size; (try simp at this); omega)
      have HJ := Lib.hid hjo
      have hs2 : Qs.length + tsum Qs ≤ j + 1 := (by have h1 := fjoin_sum (Rs.map fl) x y; rw [hjo] at h1; simp only [List.length_map] at h1; have h2 : fsum (Qs.map fl) = tsum Qs := rfl; have h3 : fsum (Rs.map fl) = tsum Rs := rfl; omega)
      have r_q_13 := Lib.hid (owf_mono hof2 (show w.heap.size ≤ _ by omega) (Nat.le_refl _) (Nat.le_refl _))
      clear hjo hof2
      clear hb r_o_12 R_12 T_12
      by_cases hok : ok = true
      · subst hok
        go_wp2_with fail
        go_roundw
        case rel => exact ⟨Qs, a2, cap2, w13.heap.size, k - 1, j + 1, by rw [show ((k - 1 : Nat) : Int) = (k : Int) - 1 by omega], by omega, rfl, hs2, r_q_13.out, by omega, by omega, rdr_mono R_13.out (by omega), T_13.out⟩
        case measure => simp [intOf]; omega
      · have hok1 : ok = false := by simpa using hok
        subst hok1
        go_wp2_with fail
        go_roundw
        case rel => exact ⟨Rs, a, cap, C, k - 1, j + 1, by rw [show ((k - 1 : Nat) : Int) = (k : Int) - 1 by omega], by omega, rfl, by omega, r_o_13.out, by omega, by omega, rdr_mono R_13.out (by omega), T_13.out⟩
        case measure => simp [intOf]; omega
    · obtain rfl : k = 0 := by omega
      go_wp2_with fail
      (with_reducible refine (S_pick _ r _ _ (R_10.out) (by omega) (by omega)).mono ?_)
      rintro e w11 ⟨x, rfl, hx0, hx1, hr1, hg⟩
      have r_o_11 := Lib.hid (owf_gs (r_o_10.out) hg (by omega))
      have R_11 := Lib.hid hr1
      have T_11 := Lib.hid (gs_trans (T_10.out) hg)
      have z_11 : w10.heap.size ≤ w11.heap.size := (by have := hg.size; (try simp at this); omega)
      clear hg r_o_10 hr1 R_10 T_10 hx1
      by_cases hx0 : x = 0
      · subst hx0
        go_wp2_with fail
        (with_reducible refine (S_pick _ r _ _ (R_11.out) (by omega) (by omega)).mono ?_)
        rintro e w12 ⟨p, rfl, hp0, hp1, hr1, hg⟩
        have r_o_12 := Lib.hid (owf_gs (r_o_11.out) hg (by omega))
        have R_12 := Lib.hid hr1
        have T_12 := Lib.hid (gs_trans (T_11.out) hg)
        have z_12 : w11.heap.size ≤ w12.heap.size := (by have := hg.size; (try simp at this); omega)
        clear hg r_o_11 hr1 R_11 T_11 hp1
        go_wp2_with fail
        (with_reducible refine (S_pick _ r _ _ (R_12.out) (by omega) (by omega)).mono ?_)
        rintro e w13 ⟨q, rfl, hq0, hq1, hr1, hg⟩
        have r_o_13 := Lib.hid (owf_gs (r_o_12.out) hg (by omega))
        have R_13 := Lib.hid hr1
        have T_13 := Lib.hid (gs_trans (T_12.out) hg)
        have z_13 : w12.heap.size ≤ w13.heap.size := (by have := hg.size; (try simp at this); omega)
        clear hg r_o_12 hr1 R_12 T_12 hq1
        have o_u_13 := Lib.hid (ow_nil w13 w13.heap.size)
        have lo_u := Lib.hid (own_lo o_u_13.out)
        have hi_u := Lib.hid (own_hi o_u_13.out)
        have tok14 : True := trivial
        go_wp2_with (first | (at_builtin; have _t := tok14; have hof9 : OwF ((w13).alloc (.cells #[.int .i64 (p), .int .i64 (q), Value.slice none 0 0] 47)) 47 (w.heap.size) (C) (.slice a Rs.length cap) (Rs) := (owf_b (r_o_13.out) (below_alloc _ _)); have hue9 : ((w13).alloc (.cells #[.int .i64 (p), .int .i64 (q), Value.slice none 0 0] 47)).ownsRow (w13.heap.size) 3 1 (Value.slice none 0 0) (0) (ints ([])) := (own_below (o_u_13.out) (below_alloc _ _)); refine wpList_append_rdx (by rfl) _ _ 25 rfl (w.heap.size) 47 3 40 (.agg #[.int .i64 0, .int .i64 0, .slice none 0 0]) j0 Try.underlying25 hj hy0 hy1 hy2 rfl (by decide) (.slice a Rs.length cap) (Rs.length) (tcs (Rs)) rfl hof9.1 _ _ _ (tcs [(p, q, [], Value.slice none 0 0)]) rfl (rdx_lit3 _ _ _ _ _ _ (w13.heap.size) (by first | rfl | (simp; done))) (tcs_one1 _ _ _ _ _ _) (by first | (unfold maxLen; omega) | (unfold maxLen; simp; omega)) (by first | omega | (simp; omega)) (by first | omega | (simp; done) | (simp; omega)) ?_; intro v14 w14 hown hgr hloc; clear tok14; have ho : w14.ownsRow (w.heap.size) 47 3 v14 (Rs.length + 1) (tcs (Rs ++ [(p, q, [], Value.slice none 0 0)])) := (by rw [tcs_append]; exact hown); obtain ⟨a3, cap3, hv⟩ := own_shape ho; subst hv; have hof8 := owf_snoc hof9 (own_base hue9 (by first | omega | (simp; done) | (simp; omega))) (by omega) ho (by first | rfl | omega) hgr hloc; have R_14 := Lib.hid (rdr_gr (rdr_b (R_13.out) (below_alloc _ _)) hgr (fun g h => by have h1 := own_lo hof9.1 g h; have h2 := hof9.2.1 g h; omega)); have T_14 := Lib.hid (gs_row (gs_trans (T_13.out) (gs_b (below_alloc _ _))) hgr (fun g h => by have h1 := own_lo hof9.1 g h; have h2 := hof9.2.1 g h; omega)); have z_14 : w13.heap.size + 1 ≤ w14.heap.size := (by have := hgr.size; (try simp at this); omega); have r_s_14 := Lib.hid hof8; clear hgr R_13 T_13 hown ho hloc hof9 hof8 hue9 r_o_13 o_u_13 lo_u hi_u))
        go_wp2_with fail
        have hRl : (Rs ++ [(p, q, [], Value.slice none 0 0)]).length = Rs.length + 1 := by simp
        have hts := tsum_snoc Rs (p, q, ([] : List Int), Value.slice none 0 0)
        refine bodyPost_ret (v := .slice a3 (Rs.length + 1) cap3) (by simp [results, Try.results59, go_sem]) rfl ⟨Rs ++ [(p, q, [], Value.slice none 0 0)], a3, cap3, by rw [hRl], by simp only [List.length_nil] at hts; omega, ?_, rdr_mono (R_14.out) (by omega), (T_14.out)⟩
        rw [hRl]
        exact rdf_mono (owf_rdf (r_s_14.out)) (Nat.le_refl _) (Nat.le_refl _) (Nat.le_refl _)
      by_cases hx1 : x = 1
      · by_cases hl0 : Rs.length = 0
        · subst hx1
          have hlz : ¬ (0 : Int) < (Rs.length : Int) := by omega
          clear hl0
          go_wp2_with fail
          refine bodyPost_ret (v := .slice a Rs.length cap) (by simp [results, Try.results59, go_sem]) rfl ⟨Rs, a, cap, rfl, by omega, rdf_mono (owf_rdf (r_o_11.out)) (Nat.le_refl _) (by omega) (Nat.le_refl _), rdr_mono (R_11.out) (by omega), (T_11.out)⟩
        · subst hx1
          have hlz : (0 : Int) < (Rs.length : Int) := by omega
          have hk0 : 0 < Rs.length := by omega
          obtain ⟨gq, rfl⟩ := owf_some r_o_11.out hk0
          obtain ⟨_, _, c_Y2_11, f_Y2_11⟩ := owf_cells r_o_11.out rfl 0 hk0
          simp only [Nat.zero_mul, Nat.zero_add] at c_Y2_11 f_Y2_11
          obtain ⟨X, hX⟩ : ∃ X : FT, Rs[0] = X := ⟨_, rfl⟩
          have hgB := own_lo r_o_11.out.1 gq rfl
          have hgC := r_o_11.out.2.1 gq rfl
          obtain ⟨xa, xc, hx3⟩ := own_shape (r_o_11.out.2.2.1 _ (List.getElem_mem hk0)).1
          rw [hX] at c_Y2_11 hx3
          obtain ⟨xk, xo, xs, xv⟩ := X
          simp only [fv, fw] at c_Y2_11 hx3
          subst hx3
          have hsx := tsum_get_le hk0
          rw [hX] at hsx
          simp only at hsx
          have HX := Lib.hid hX
          clear hX
          have ac_Y2_11 := fun o => cell_b (c_Y2_11) (below_alloc _ o)
          have bc_Y2_11 := fun o o1 => cell_b (ac_Y2_11 o) (below_alloc _ o1)
          have af_Y2_11 := fun o => frz_b (cell_lt (c_Y2_11)) (f_Y2_11) (below_alloc _ o)
          have bf_Y2_11 := fun o o1 => frz_b (cell_lt (ac_Y2_11 o)) (af_Y2_11 o) (below_alloc _ o1)
          go_wp2_with fail
          go_region_law (first | (have hof9 : OwF ((w12).alloc (.cells #[.int .i64 y] 3)) 47 (w.heap.size) (C) (.slice (some ⟨gq, 0, none⟩) Rs.length cap) (Rs) := (owf_b (r_o_12.out) (below_alloc _ _)); have hin9 : ((w12).alloc (.cells #[.int .i64 y] 3)).ownsRow (w.heap.size) 3 1 (.slice xa xs.length xc) xs.length (ints xs) := (by have h := (hof9.2.2.1 _ (List.getElem_mem hk0)).1; rw [HX.out] at h; exact h); have hlt9 : ∀ g9, (Value.slice xa xs.length xc).ownBlock = some g9 → g9 < C ∧ g9 ≠ gq := (fun g9 h9 => ⟨by have h := (hof9.2.2.1 _ (List.getElem_mem hk0)).2; rw [HX.out] at h; exact h g9 h9, by have h := hof9.2.2.2.1 _ (List.getElem_mem hk0); rw [HX.out] at h; exact h gq g9 rfl h9⟩); refine step_append_rd (w := (w12).alloc (.cells #[.int .i64 y] 3)) rfl _ _ 34 rfl (w.heap.size) i0 Try.underlying34 hi hz0 hz1 hz2 (.slice xa xs.length xc) (xs.length) (xs) rfl hin9 _ _ _ [y] rfl (rdb_rd (rdb_lit _ #[.int .i64 y] [y] rfl 0 (w12.heap.size) 1 (by first | rfl | (simp; done)) rfl (by omega))) rfl (by unfold maxLen; simp; omega) (by simp; omega) (by first | omega | (simp; done) | (simp; omega)) ?_; intro v13 w13 hown hgr hloc; have ho : w13.ownsRow (w.heap.size) 3 1 v13 (xs.length + 1) (ints (xs ++ [y])) := (by exact hown); obtain ⟨a2, cap2, hv⟩ := own_shape ho; subst hv; have hup := owf_upd hof9 hk0 (t := y) (u := .slice a2 (xs.length + 1) cap2) (n := xs.length + 1) (by rw [HX.out]; exact ho) (by rw [HX.out]) (by rw [HX.out]; exact hgr) (by rw [HX.out]; exact hloc) (g := gq) (cap := cap) rfl (by first | omega | (simp; done) | (simp; omega)); have HUP := Lib.hid hup; have c_Y2_13 := cell_gr (cell_b (c_Y2_12) (below_alloc _ _)) hgr (fun g h => by have h1 := own_lo hin9 _ h; have h2 := hlt9 _ h; show gq ≠ g; omega); have f_Y2_13 := (frz_gr (p := ⟨gq, 2, none⟩) (cell_lt (cell_b (c_Y2_12) (below_alloc _ _))) hgr (fun g h => by have h1 := own_lo hin9 _ h; have h2 := hlt9 _ h; show gq ≠ g; omega)).trans (frz_b (cell_lt (c_Y2_12)) (f_Y2_12) (below_alloc _ _)); have R_13 := Lib.hid (rdr_gr (rdr_b (R_12.out) (below_alloc _ _)) hgr (fun g h => by have h1 := own_lo hin9 _ h; have h2 := hlt9 _ h; omega)); have T_13 := Lib.hid (gs_row (gs_trans (T_12.out) (gs_b (below_alloc _ _))) hgr (fun g h => by have h1 := own_lo hin9 _ h; have h2 := hlt9 _ h; omega)); have z_13 : w12.heap.size + 1 ≤ w13.heap.size := (by have := hgr.size; (try simp at this); omega); clear hgr c_Y2_12 f_Y2_12 R_12 T_12 ac_Y2_12 bc_Y2_12 af_Y2_12 bf_Y2_12 hown ho hloc hof9 hin9 hlt9 hup r_o_12) | (go_simp; go_at_call 60; (with_reducible refine (S_pick _ r _ _ (rdr_b (R_11.out) (drew_below _)) (by omega) (by omega)).mono ?_); rintro e w12 ⟨y, rfl, hy0, hy1, hr1, hg⟩; have c_Y2_12 := cell_gs (cell_b (c_Y2_11) (drew_below _)) hg (by show gq ≠ r; omega); have f_Y2_12 := frz_gs (p := ⟨gq, 2, none⟩) (cell_lt (cell_b (c_Y2_11) (drew_below _))) (frz_b (cell_lt (c_Y2_11)) (f_Y2_11) (drew_below _)) hg (by show gq ≠ r; omega); have r_o_12 := Lib.hid (owf_gs (owf_b (r_o_11.out) (drew_below _)) hg (by omega)); have R_12 := Lib.hid hr1; have T_12 := Lib.hid (gs_trans (gs_trans (T_11.out) (gs_b (drew_below _))) hg); have z_12 : w11.heap.size ≤ w12.heap.size := (by have := hg.size; (try simp at this); omega); have ac_Y2_12 := fun o => cell_b (c_Y2_12) (below_alloc _ o); have bc_Y2_12 := fun o o1 => cell_b (ac_Y2_12 o) (below_alloc _ o1); have af_Y2_12 := fun o => frz_b (cell_lt (c_Y2_12)) (f_Y2_12) (below_alloc _ o); have bf_Y2_12 := fun o o1 => frz_b (cell_lt (ac_Y2_12 o)) (af_Y2_12 o) (below_alloc _ o1); clear hg c_Y2_11 f_Y2_11 r_o_11 hr1 R_11 T_11 ac_Y2_11 bc_Y2_11 af_Y2_11 bf_Y2_11 hy1) | fail)
          all_goals
            go_wp2_with fail
            have hRl : (Rs.set 0 (Rs[0].1, Rs[0].2.1, fw Rs[0] ++ [y], .slice a2 (xs.length + 1) cap2)).length = Rs.length := by simp
            have hts := tsum_put hk0 y (.slice a2 (xs.length + 1) cap2)
            refine bodyPost_ret (v := .slice (some ⟨gq, 0, none⟩) Rs.length cap) (by simp [results, Try.results59, go_sem]) rfl ⟨Rs.set 0 (Rs[0].1, Rs[0].2.1, fw Rs[0] ++ [y], .slice a2 (xs.length + 1) cap2), some ⟨gq, 0, none⟩, cap, by rw [hRl], by omega, ?_, rdr_mono (rdr_set (p := ⟨gq, 2, none⟩) (R_13.out) (by show r < gq; omega) _) (by omega), (gs_set (p := ⟨gq, 2, none⟩) (T_13.out) (.inr (by show w.heap.size ≤ gq; omega)) _)⟩
            rw [hRl]
            exact rdf_mono (owf_rdf HUP.out) (Nat.le_refl _) (by simp) (Nat.le_refl _)
      have n0 : (x == 0) = false := by simpa using hx0
      have n1 : (x == 1) = false := by simpa using hx1
      go_wp2_with fail
      refine bodyPost_ret (v := .slice a Rs.length cap) (by simp [results, Try.results59, go_sem]) rfl ⟨Rs, a, cap, rfl, by omega, rdf_mono (owf_rdf (r_o_11.out)) (Nat.le_refl _) (by omega) (Nat.le_refl _), rdr_mono (R_11.out) (by omega), (T_11.out)⟩
end Go.Proofs.Ytafpnkcdoeicgaa
