/- What the draws of conditions and barriers hand back: some value that can be read. -/
import Derived.Test.YtkglngcopflgeaaDraw
import Derived.Test.YtkglngcopflgeaaCond
import Derived.Deep.RegionHeld3
import Derived.Deep.RegionLaw
import Derived.Deep.DrawnRows
namespace Go.Proofs.Ytkglngcopflgeaa
open Go.RowKit

/-- At the head of l3Threads' loop. -/
def ThrHead (w : World) (r N : Nat) (v i : Value) (wr : World) : Prop :=
  ∃ (xs : List Int) (k j : Nat) (a : Option Addr) (cap : Nat), i = .int .i64 (k : Int) ∧ k + j ≤ 4 ∧ xs.length ≤ j ∧ v = .slice a xs.length cap ∧ Ow wr w.heap.size (.slice a xs.length cap) xs ∧ Rdr wr r (N + 1 + j) ∧ w.grownBy wr (some r)
/-- Threads, drawn. -/
def Threads (w : World) (r N : Nat) (e : Ending) (w' : World) : Prop :=
  ∃ (xs : List Int) (a : Option Addr) (cap : Nat), e = .returned (.slice a xs.length cap) ∧ xs.length ≤ 4 ∧ Ow w' w.heap.size (.slice a xs.length cap) xs ∧ Rdr w' r (N + 5) ∧ w.grownBy w' (some r)
set_option maxHeartbeats 4000000 in
theorem S_l3Threads (w : World) (r N : Nat) (hr : Rdr w r N) (hN : N ≤ 100000) :
    Calls Try.prog 47 #[.pointer (some ⟨r, 0, none⟩)] w (Threads w r N) := by
  obtain ⟨i0, hi, hz0, hz1, hz2⟩ := info_parts info3
  have R_0 := Lib.hid hr
  have hrw := rdr_lt hr
  clear hr
  go_enter Try.func47, Try.ntmps47
  have T_0 : Hid (w.grownBy w (some r)) := Lib.hid (gs_refl _ _)
  go_wp2_with fail
  (with_reducible refine (S_num _ r _ [2, 1, 3, 0, 4] N (rdr_b (rdr_b (R_0.out) (below_alloc _ _)) (below_alloc _ _)) (by omega) (rdb_lit _ #[.int .i64 2, .int .i64 1, .int .i64 3, .int .i64 0, .int .i64 4] [2, 1, 3, 0, 4] rfl (r + 1) (w.heap.size + 1) 5 (by first | rfl | simp) rfl (by first | omega | (simp; omega))) (by decide) (by decide)).mono ?_)
  rintro e w1 ⟨x, rfl, hx, hr1, hg⟩
  have R_1 := Lib.hid hr1
  have T_1 := Lib.hid (gs_trans (gs_trans (gs_trans (T_0.out) (gs_b (below_alloc _ _))) (gs_b (below_alloc _ _))) hg)
  have z_1 : w.heap.size + 2 ≤ w1.heap.size := (by have := hg.size; (try simp at this); omega)
  have hx4 : 0 ≤ x ∧ x ≤ 4 := by simp at hx; omega
  obtain ⟨k, rfl⟩ : ∃ k : Nat, x = k := ⟨x.toNat, by omega⟩
  have hk4 : k ≤ 4 := by omega
  have O1 : Hid (Ow w1 w.heap.size (.slice (some ⟨w.heap.size, 0, none⟩) 0 0) []) := Lib.hid (own_gr (own_below (ow_made w w.heap.size (Nat.le_refl _)) (below_alloc _ _)) hg (fun g g' h h' => by injection h with h; simp [Value.ownBlock] at h'; omega))
  clear hx4 hx
  clear hg hr1 R_0 T_0
  go_wp2_with fail
  go_loopw [3, 4, 5] (fun v i _ wr => ThrHead w r N v i wr) (fun _ i _ _ => (intOf i).toNat)
  case atStart => exact ⟨[], k, 0, _, _, rfl, by omega, by simp, rfl, O1.out, R_1.out, T_1.out⟩
  case round =>
    obtain ⟨xs, k, j, a, cap, rfl, hkj, hxj, rfl, hown, hrd, hgr⟩ := hrel
    clear O1 R_1 T_1
    have o_d_10 := Lib.hid hown
    have lo_d := Lib.hid (own_lo hown)
    have hi_d := Lib.hid (own_hi hown)
    have R_10 := Lib.hid hrd
    have T_10 := Lib.hid hgr
    obtain ⟨w10, rfl⟩ : ∃ wo : World, wo = wr := ⟨_, rfl⟩
    have hz := hgr.size
    clear hown hrd hgr
    by_cases hk : 0 < k
    · go_wp2_with fail
      (with_reducible refine (S_pick _ r _ _ (R_10.out) (by omega) (by omega)).mono ?_)
      rintro e w11 ⟨x, rfl, hx0, hx1, hr1, hg⟩
      have o_d_11 := Lib.hid (own_gr (o_d_10.out) hg (fun g g' h h' => by injection h with h; have h3 := lo_d.out g' h'; omega))
      have R_11 := Lib.hid hr1
      have T_11 := Lib.hid (gs_trans (T_10.out) hg)
      have z_11 : w10.heap.size ≤ w11.heap.size := (by have := hg.size; (try simp at this); omega)
      clear hg o_d_10 hr1 R_10 T_10 hx1
      by_cases ha : atF xs x < 0
      · go_wp2_with fail
        (with_reducible refine (S_l2At _ _ xs x (own_rd (o_d_11.out)) (by omega)).mono ?_)
        rintro e w9 ⟨rfl, rfl⟩
        have tok12 : True := trivial
        go_wp2_with (first | (at_builtin; have _t := tok12; refine wpList_append_own_at _ rfl _ _ 24 rfl (w.heap.size) 3 i0 (.int .i64 0) 1 8 Try.underlying24 hi hz0 hz1 hz2 rfl (by decide) (.slice a xs.length cap) ((xs).length) (ints (xs)) rfl (own_below (o_d_11.out) (below_alloc _ _)) ⟨w11.heap.size, 0, none⟩ 1 1 [.int .i64 (x)] rfl rfl (cell_one_new _ _ _) (ints_oneCell .i64 [x]) (by unfold maxLen; omega) (by omega) (by first | omega | (simp; done) | (simp; omega)) ?_; intro v12 w12 hown hgr _ hloc; clear tok12; have ho : w12.ownsRow (w.heap.size) 3 1 v12 ((xs).length + 1) (ints (xs ++ [x])) := (by rw [ints_append]; exact hown); obtain ⟨a1, cap1, hv⟩ := own_shape ho; subst hv; have R_12 := Lib.hid (rdr_gr (rdr_b (R_11.out) (below_alloc _ _)) hgr (fun g h => by have h1 := lo_d.out g h; have h2 := hi_d.out g h; omega)); have T_12 := Lib.hid (gs_row (gs_trans (T_11.out) (gs_b (below_alloc _ _))) hgr (fun g h => by have h1 := lo_d.out g h; have h2 := hi_d.out g h; omega)); have z_12 : w11.heap.size + 1 ≤ w12.heap.size := (by have := hgr.size; (try simp at this); omega); have o_e_12 := Lib.hid ho; have lo_e := Lib.hid (own_lo o_e_12.out); have hi_e := Lib.hid (own_hi o_e_12.out); clear hgr R_11 T_11 hown ho hloc o_d_11 lo_d hi_d))
        go_roundw
        case rel => exact ⟨xs ++ [x], k - 1, j + 1, a1, cap1, by rw [show ((k - 1 : Nat) : Int) = (k : Int) - 1 by omega], by omega, by simp; omega, by simp, by have := o_e_12.out; unfold Ow; rwa [show (xs ++ [x]).length = xs.length + 1 by simp], R_12.out, T_12.out⟩
        case measure => simp [intOf]; omega
      · go_wp2_with fail
        (with_reducible refine (S_l2At _ _ xs x (own_rd (o_d_11.out)) (by omega)).mono ?_)
        rintro e w9 ⟨rfl, rfl⟩
        go_wp2_with fail
        go_roundw
        case rel => exact ⟨xs, k - 1, j + 1, _, _, by rw [show ((k - 1 : Nat) : Int) = (k : Int) - 1 by omega], by omega, by omega, rfl, o_d_11.out, R_11.out, T_11.out⟩
        case measure => simp [intOf]; omega
    · obtain rfl : k = 0 := by omega
      go_wp2
      go_ret
      exact ⟨xs, _, _, rfl, by omega, o_d_10.out, rdr_mono R_10.out (by omega), T_10.out⟩

/-- A condition, drawn. -/
def CondD (w : World) (r N : Nat) (e : Ending) (w' : World) : Prop :=
  ∃ (xs : List Int) (a : Option Addr) (cap : Nat), e = .returned (.agg #[.slice a xs.length cap]) ∧ xs.length ≤ 5 ∧ RdB w' (r + 1) (.slice a xs.length cap) xs ∧ Rdr w' r (N + 7) ∧ w.grownBy w' (some r)
set_option maxHeartbeats 4000000 in
theorem S_l3Cond (w : World) (r N : Nat) (hr : Rdr w r N) (hN : N ≤ 10000) :
    Calls Try.prog 39 #[.pointer (some ⟨r, 0, none⟩)] w (CondD w r N) := by
  obtain ⟨i0, hi, hz0, hz1, hz2⟩ := info_parts info3
  have R_0 := Lib.hid hr
  have hrw := rdr_lt hr
  clear hr
  go_enter Try.func39, Try.ntmps39
  have T_0 : Hid (w.grownBy w (some r)) := Lib.hid (gs_refl _ _)
  go_wp2_with fail
  (with_reducible refine (S_l3Threads _ r N (rdr_b (R_0.out) (below_alloc _ _)) (by omega)).mono ?_)
  rintro e w1 ⟨xs, a, cap, rfl, hx4, hd, hr1, hg⟩
  have c_R0_1 := cell_gs (p := ⟨w.heap.size, 0, none⟩) (v := .slice none 0 0) (by simp) hg (by show w.heap.size ≠ r; omega)
  have f_R0_1 := frz_gs (p := ⟨w.heap.size, 0, none⟩) (by first | omega | (simp; done) | (simp; omega)) (show _ = false by simp) hg (by show w.heap.size ≠ r; omega)
  have R_1 := Lib.hid hr1
  have T_1 := Lib.hid (gs_trans (gs_trans (T_0.out) (gs_b (below_alloc _ _))) hg)
  have z_1 : w.heap.size + 1 ≤ w1.heap.size := (by have := hg.size; (try simp at this); omega)
  have o_d_1 := Lib.hid (own_base hd (show w.heap.size + 1 ≤ _ by first | omega | (simp; done) | (simp; omega)))
  have lo_d := Lib.hid (own_lo o_d_1.out)
  have hi_d := Lib.hid (own_hi o_d_1.out)
  have ac_R0_1 := fun o => cell_b (c_R0_1) (below_alloc _ o)
  have bc_R0_1 := fun o o1 => cell_b (ac_R0_1 o) (below_alloc _ o1)
  have af_R0_1 := fun o => frz_b (cell_lt (c_R0_1)) (f_R0_1) (below_alloc _ o)
  have bf_R0_1 := fun o o1 => frz_b (cell_lt (ac_R0_1 o)) (af_R0_1 o) (below_alloc _ o1)
  clear hg hr1 R_0 T_0 hd
  go_wp2_with fail
  (with_reducible refine (S_pick _ r _ _ (rdr_b (R_1.out) (below_alloc _ _)) (by omega) (by omega)).mono ?_)
  rintro e w2 ⟨x, rfl, hx0, hx1, hr1, hg⟩
  have c_R0_2 := cell_gs (cell_b (c_R0_1) (below_alloc _ _)) hg (by show w.heap.size ≠ r; omega)
  have f_R0_2 := frz_gs (p := ⟨w.heap.size, 0, none⟩) (cell_lt (cell_b (c_R0_1) (below_alloc _ _))) (frz_b (cell_lt (c_R0_1)) (f_R0_1) (below_alloc _ _)) hg (by show w.heap.size ≠ r; omega)
  have c_C0_2 := cell_gs (p := ⟨w1.heap.size, 0, none⟩) (v := .slice a xs.length cap) (by simp) hg (by show w1.heap.size ≠ r; omega)
  have f_C0_2 := frz_gs (p := ⟨w1.heap.size, 0, none⟩) (by first | omega | (simp; done) | (simp; omega)) (show _ = false by simp) hg (by show w1.heap.size ≠ r; omega)
  have o_d_2 := Lib.hid (own_gr (own_below (o_d_1.out) (below_alloc _ _)) hg (fun g g' h h' => by injection h with h; have h3 := lo_d.out g' h'; omega))
  have R_2 := Lib.hid hr1
  have T_2 := Lib.hid (gs_trans (gs_trans (T_1.out) (gs_b (below_alloc _ _))) hg)
  have z_2 : w1.heap.size + 1 ≤ w2.heap.size := (by have := hg.size; (try simp at this); omega)
  have ac_R0_2 := fun o => cell_b (c_R0_2) (below_alloc _ o)
  have bc_R0_2 := fun o o1 => cell_b (ac_R0_2 o) (below_alloc _ o1)
  have ac_C0_2 := fun o => cell_b (c_C0_2) (below_alloc _ o)
  have bc_C0_2 := fun o o1 => cell_b (ac_C0_2 o) (below_alloc _ o1)
  have af_R0_2 := fun o => frz_b (cell_lt (c_R0_2)) (f_R0_2) (below_alloc _ o)
  have bf_R0_2 := fun o o1 => frz_b (cell_lt (ac_R0_2 o)) (af_R0_2 o) (below_alloc _ o1)
  have af_C0_2 := fun o => frz_b (cell_lt (c_C0_2)) (f_C0_2) (below_alloc _ o)
  have bf_C0_2 := fun o o1 => frz_b (cell_lt (ac_C0_2 o)) (af_C0_2 o) (below_alloc _ o1)
  clear hg c_R0_1 f_R0_1 o_d_1 hr1 R_1 T_1 ac_R0_1 bc_R0_1 af_R0_1 bf_R0_1 hx1
  by_cases hx : x = 0
  · subst hx
    go_wp2_with fail
    go_region_law (first | refine step_append_rd rfl _ _ 24 rfl (w.heap.size + 1) i0 Try.underlying24 hi hz0 hz1 hz2 (.slice a xs.length cap) ((xs).length) (xs) rfl (own_below (o_d_3.out) (below_alloc _ _)) _ _ _ [y] rfl (rdb_rd (rdb_lit _ #[.int .i64 y] [y] rfl 0 (w3.heap.size) 1 (by simp) rfl (by omega))) rfl (by unfold maxLen; simp; omega) (by simp; omega) (by first | omega | (simp; done) | (simp; omega)) ?_; intro v4 w4 hown hgr hloc; have ho : w4.ownsRow (w.heap.size + 1) 3 1 v4 ((xs).length + 1) (ints (xs ++ [y])) := (by exact hown); obtain ⟨a1, cap1, hv⟩ := own_shape ho; subst hv; have iv_e : Hid (∀ g, (Value.slice a1 ((xs).length + 1) cap1).ownBlock = some g → (w.heap.size + 1 ≤ g ∧ g < w1.heap.size) ∨ (w3.heap.size + 1 ≤ g ∧ g < w4.heap.size)) := Lib.hid (fun g h => by have h9 := hgr.size; have h7 := own_hi ho g h; rcases hloc with h8 | h8 <;> rw [h8] at h <;> first | (have h1 := lo_d.out g h; have h2 := hi_d.out g h; (try simp at h9); omega) | (injection h with h; (try simp at h9); simp at h; omega)); have c_R0_4 := cell_gr (cell_b (c_R0_3) (below_alloc _ _)) hgr (fun g h => by have h1 := lo_d.out g h; have h2 := hi_d.out g h; show w.heap.size ≠ g; omega); have c_C0_4 := cell_gr (cell_b (c_C0_3) (below_alloc _ _)) hgr (fun g h => by have h1 := lo_d.out g h; have h2 := hi_d.out g h; show w1.heap.size ≠ g; omega); have f_R0_4 := (frz_gr (p := ⟨w.heap.size, 0, none⟩) (cell_lt (cell_b (c_R0_3) (below_alloc _ _))) hgr (fun g h => by have h1 := lo_d.out g h; have h2 := hi_d.out g h; show w.heap.size ≠ g; omega)).trans (frz_b (cell_lt (c_R0_3)) (f_R0_3) (below_alloc _ _)); have f_C0_4 := (frz_gr (p := ⟨w1.heap.size, 0, none⟩) (cell_lt (cell_b (c_C0_3) (below_alloc _ _))) hgr (fun g h => by have h1 := lo_d.out g h; have h2 := hi_d.out g h; show w1.heap.size ≠ g; omega)).trans (frz_b (cell_lt (c_C0_3)) (f_C0_3) (below_alloc _ _)); have R_4 := Lib.hid (rdr_gr (rdr_b (R_3.out) (below_alloc _ _)) hgr (fun g h => by have h1 := lo_d.out g h; have h2 := hi_d.out g h; omega)); have T_4 := Lib.hid (gs_row (gs_trans (T_3.out) (gs_b (below_alloc _ _))) hgr (fun g h => by have h1 := lo_d.out g h; have h2 := hi_d.out g h; omega)); have z_4 : w3.heap.size + 1 ≤ w4.heap.size := (by have := hgr.size; (try simp at this); omega); have o_e_4 := Lib.hid ho; have lo_e := Lib.hid (own_lo o_e_4.out); have hi_e := Lib.hid (own_hi o_e_4.out); have ac_R0_4 := fun o => cell_b (c_R0_4) (below_alloc _ o); have bc_R0_4 := fun o o1 => cell_b (ac_R0_4 o) (below_alloc _ o1); have ac_C0_4 := fun o => cell_b (c_C0_4) (below_alloc _ o); have bc_C0_4 := fun o o1 => cell_b (ac_C0_4 o) (below_alloc _ o1); have af_R0_4 := fun o => frz_b (cell_lt (c_R0_4)) (f_R0_4) (below_alloc _ o); have bf_R0_4 := fun o o1 => frz_b (cell_lt (ac_R0_4 o)) (af_R0_4 o) (below_alloc _ o1); have af_C0_4 := fun o => frz_b (cell_lt (c_C0_4)) (f_C0_4) (below_alloc _ o); have bf_C0_4 := fun o o1 => frz_b (cell_lt (ac_C0_4 o)) (af_C0_4 o) (below_alloc _ o1); clear hgr c_R0_3 c_C0_3 f_R0_3 f_C0_3 R_3 T_3 ac_R0_3 bc_R0_3 ac_C0_3 bc_C0_3 af_R0_3 bf_R0_3 af_C0_3 bf_C0_3 hown ho hloc o_d_3 lo_d hi_d | ((go_simp; go_at_call 45; (with_reducible refine (S_pick _ r _ _ (rdr_b (R_2.out) (drew_below _)) (by omega) (by omega)).mono ?_); rintro e w3 ⟨y, rfl, hy0, hy1, hr1, hg⟩; have c_R0_3 := cell_gs (cell_b (c_R0_2) (drew_below _)) hg (by show w.heap.size ≠ r; omega); have c_C0_3 := cell_gs (cell_b (c_C0_2) (drew_below _)) hg (by show w1.heap.size ≠ r; omega); have f_R0_3 := frz_gs (p := ⟨w.heap.size, 0, none⟩) (cell_lt (cell_b (c_R0_2) (drew_below _))) (frz_b (cell_lt (c_R0_2)) (f_R0_2) (drew_below _)) hg (by show w.heap.size ≠ r; omega); have f_C0_3 := frz_gs (p := ⟨w1.heap.size, 0, none⟩) (cell_lt (cell_b (c_C0_2) (drew_below _))) (frz_b (cell_lt (c_C0_2)) (f_C0_2) (drew_below _)) hg (by show w1.heap.size ≠ r; omega); have o_d_3 := Lib.hid (own_gr (own_below (o_d_2.out) (drew_below _)) hg (fun g g' h h' => by injection h with h; have h3 := lo_d.out g' h'; omega)); have R_3 := Lib.hid hr1; have T_3 := Lib.hid (gs_trans (gs_trans (T_2.out) (gs_b (drew_below _))) hg); have z_3 : w2.heap.size ≤ w3.heap.size := (by have := hg.size; (try simp at this); omega); have ac_R0_3 := fun o => cell_b (c_R0_3) (below_alloc _ o); have bc_R0_3 := fun o o1 => cell_b (ac_R0_3 o) (below_alloc _ o1); have ac_C0_3 := fun o => cell_b (c_C0_3) (below_alloc _ o); have bc_C0_3 := fun o o1 => cell_b (ac_C0_3 o) (below_alloc _ o1); have af_R0_3 := fun o => frz_b (cell_lt (c_R0_3)) (f_R0_3) (below_alloc _ o); have bf_R0_3 := fun o o1 => frz_b (cell_lt (ac_R0_3 o)) (af_R0_3 o) (below_alloc _ o1); have af_C0_3 := fun o => frz_b (cell_lt (c_C0_3)) (f_C0_3) (below_alloc _ o); have bf_C0_3 := fun o o1 => frz_b (cell_lt (ac_C0_3 o)) (af_C0_3 o) (below_alloc _ o1); clear hg c_R0_2 c_C0_2 f_R0_2 f_C0_2 o_d_2 hr1 R_2 T_2 ac_R0_2 bc_R0_2 ac_C0_2 bc_C0_2 af_R0_2 bf_R0_2 af_C0_2 bf_C0_2 hy1)))
    all_goals go_wp2_with fail
    all_goals have e9 : (xs ++ [y]).length = xs.length + 1 := by simp
    all_goals refine bodyPost_ret (v := .agg #[.slice a1 (xs.length + 1) cap1]) (by simp [results, Try.results39, go_sem, c_R0_4]) rfl ⟨xs ++ [y], a1, cap1, by rw [e9], by omega, ?_, rdr_mono (rdr_set (rdr_set (R_4.out) (by show r < w1.heap.size; omega) _) (by show r < w.heap.size; omega) _) (by omega), (gs_set (gs_set (T_4.out) (.inr (by show w.heap.size ≤ w1.heap.size; omega)) _) (.inr (by show w.heap.size ≤ w.heap.size; omega)) _)⟩
    all_goals
      rw [e9]
      have o9 : Ow w4 _ (.slice a1 (xs.length + 1) cap1) (xs ++ [y]) := (by have := o_e_4.out; unfold Ow; rwa [e9])
      exact rdb_mono (ow_rdb (own_set (own_set (o9) (fun g h => by have h1 := lo_e.out g h; have h2 := hi_e.out g h; have h5 := iv_e.out g h; show g ≠ w1.heap.size; omega) _) (fun g h => by have h1 := lo_e.out g h; have h2 := hi_e.out g h; have h5 := iv_e.out g h; show g ≠ w.heap.size; omega) _)) (by omega)
  · go_wp2_with fail
    refine bodyPost_ret (v := .agg #[.slice a xs.length cap]) (by simp [results, Try.results39, go_sem, c_R0_2]) rfl ⟨xs, a, cap, rfl, by omega, rdb_mono (ow_rdb (own_set (o_d_2.out) (fun g h => by have h1 := lo_d.out g h; have h2 := hi_d.out g h; show g ≠ w.heap.size; omega) _)) (by omega), rdr_mono (rdr_set (R_2.out) (by show r < w.heap.size; omega) _) (by omega), (gs_set (T_2.out) (.inr (by show w.heap.size ≤ w.heap.size; omega)) _)⟩

/-- A condition, drawn from a code. -/
def CodeCond (w : World) (e : Ending) (w' : World) : Prop :=
  ∃ (xs : List Int) (a : Option Addr) (cap : Nat), e = .returned (.agg #[.slice a xs.length cap]) ∧ xs.length ≤ 5 ∧ RdB w' w.heap.size (.slice a xs.length cap) xs ∧ Below w.heap.size w w'
/-- A condition and a thread, drawn from a code. -/
def CodeCond2 (w : World) (e : Ending) (w' : World) : Prop :=
  ∃ (xs : List Int) (t : Int) (a : Option Addr) (cap : Nat), e = .returned (.tuple #[.agg #[.slice a xs.length cap], .int .i64 t]) ∧ xs.length ≤ 5 ∧ RdB w' w.heap.size (.slice a xs.length cap) xs ∧ Below w.heap.size w w'
/-- A number of parties, drawn from a code. -/
def CodeNum (w : World) (e : Ending) (w' : World) : Prop := ∃ t : Int, e = .returned (.int .i64 t) ∧ Below w.heap.size w w'
set_option maxHeartbeats 1000000 in
theorem S_DrawCondValid (w : World) (v : Value) (n : Nat) (hv : RdY w v n) (hn : n ≤ 4294967296) : Calls Try.prog 17 #[v] w (CodeCond w) := by
  go_enter Try.func17, Try.ntmps17
  have T_0 : Hid (Below w.heap.size w w) := Lib.hid (Below.refl _ _)
  go_wp2_with fail
  (with_reducible refine (S_l13Open _ _ n (rdy_b hv (below_alloc _ _)) hn).mono ?_)
  rintro e w1 ⟨q, hq, rfl, hr1, hb⟩
  (try simp at hq)
  subst hq
  have zr := rdr_lt hr1
  have c_R0_1 := cell_b (p := ⟨w.heap.size, 0, none⟩) (v := .slice none 0 0) (by simp) hb
  have f_R0_1 := frz_b (p := ⟨w.heap.size, 0, none⟩) (by first | omega | (simp; done) | (simp; omega)) (show _ = false by simp) hb
  have R_1 := Lib.hid hr1
  have T_1 := Lib.hid (below_trans (below_trans (T_0.out) (below_alloc _ _)) hb)
  have z_1 : w.heap.size + 1 ≤ w1.heap.size := (by have := hb.size; (try simp at this); omega)
  have ac_R0_1 := fun o => cell_b (c_R0_1) (below_alloc _ o)
  have bc_R0_1 := fun o o1 => cell_b (ac_R0_1 o) (below_alloc _ o1)
  have af_R0_1 := fun o => frz_b (cell_lt (c_R0_1)) (f_R0_1) (below_alloc _ o)
  have bf_R0_1 := fun o o1 => frz_b (cell_lt (ac_R0_1 o)) (af_R0_1 o) (below_alloc _ o1)
  clear hb hr1 T_0
  go_wp2_with fail
  (with_reducible refine (S_l3Cond _ _ 0 (R_1.out) (by omega)).mono ?_)
  rintro e w2 ⟨xs, a, cap, rfl, hx, hd, hr1, hg⟩
  have c_R0_2 := cell_gs (c_R0_1) hg (by show w.heap.size ≠ (w.heap.size + 1); omega)
  have f_R0_2 := frz_gs (p := ⟨w.heap.size, 0, none⟩) (cell_lt (c_R0_1)) (f_R0_1) hg (by show w.heap.size ≠ (w.heap.size + 1); omega)
  have R_2 := Lib.hid hr1
  have T_2 := Lib.hid (gs_below (T_1.out) hg (by first | omega | (simp; done) | (simp; omega)) (by omega))
  have z_2 : w1.heap.size ≤ w2.heap.size := (by have := hg.size; (try simp at this); omega)
  have r_d_2 := Lib.hid (rdb_mono hd (show (w.heap.size + 1) + 1 ≤ _ by first | omega | (simp; done) | (simp; omega)))
  have lr_d := Lib.hid (rdb_lo r_d_2.out)
  have hr_d := Lib.hid (rdb_hi r_d_2.out)
  have ac_R0_2 := fun o => cell_b (c_R0_2) (below_alloc _ o)
  have bc_R0_2 := fun o o1 => cell_b (ac_R0_2 o) (below_alloc _ o1)
  have af_R0_2 := fun o => frz_b (cell_lt (c_R0_2)) (f_R0_2) (below_alloc _ o)
  have bf_R0_2 := fun o o1 => frz_b (cell_lt (ac_R0_2 o)) (af_R0_2 o) (below_alloc _ o1)
  clear hg c_R0_1 f_R0_1 hr1 R_1 T_1 ac_R0_1 bc_R0_1 af_R0_1 bf_R0_1 hd
  go_wp2_with fail
  refine bodyPost_ret (v := .agg #[.slice a xs.length cap]) (by simp [results, Try.results17, go_sem, c_R0_2]) rfl ⟨xs, a, cap, rfl, hx, rdb_mono (rdb_set (r_d_2.out) (fun g h => by have h1 := lr_d.out g h; have h2 := hr_d.out g h; show g ≠ w.heap.size; omega) _) (by omega), ((T_2.out).setCell (by show w.heap.size ≤ w.heap.size; omega) _)⟩
set_option maxHeartbeats 1000000 in
theorem S_DrawTellOne (w : World) (v : Value) (n : Nat) (hv : RdY w v n) (hn : n ≤ 4294967296) : Calls Try.prog 26 #[v] w (CodeCond w) := by
  go_enter Try.func26, Try.ntmps26
  have T_0 : Hid (Below w.heap.size w w) := Lib.hid (Below.refl _ _)
  go_wp2_with fail
  (with_reducible refine (S_l13Open _ _ n (rdy_b hv (below_alloc _ _)) hn).mono ?_)
  rintro e w1 ⟨q, hq, rfl, hr1, hb⟩
  (try simp at hq)
  subst hq
  have zr := rdr_lt hr1
  have c_R0_1 := cell_b (p := ⟨w.heap.size, 0, none⟩) (v := .slice none 0 0) (by simp) hb
  have f_R0_1 := frz_b (p := ⟨w.heap.size, 0, none⟩) (by first | omega | (simp; done) | (simp; omega)) (show _ = false by simp) hb
  have R_1 := Lib.hid hr1
  have T_1 := Lib.hid (below_trans (below_trans (T_0.out) (below_alloc _ _)) hb)
  have z_1 : w.heap.size + 1 ≤ w1.heap.size := (by have := hb.size; (try simp at this); omega)
  have ac_R0_1 := fun o => cell_b (c_R0_1) (below_alloc _ o)
  have bc_R0_1 := fun o o1 => cell_b (ac_R0_1 o) (below_alloc _ o1)
  have af_R0_1 := fun o => frz_b (cell_lt (c_R0_1)) (f_R0_1) (below_alloc _ o)
  have bf_R0_1 := fun o o1 => frz_b (cell_lt (ac_R0_1 o)) (af_R0_1 o) (below_alloc _ o1)
  clear hb hr1 T_0
  go_wp2_with fail
  (with_reducible refine (S_l3Cond _ _ 0 (R_1.out) (by omega)).mono ?_)
  rintro e w2 ⟨xs, a, cap, rfl, hx, hd, hr1, hg⟩
  have c_R0_2 := cell_gs (c_R0_1) hg (by show w.heap.size ≠ (w.heap.size + 1); omega)
  have f_R0_2 := frz_gs (p := ⟨w.heap.size, 0, none⟩) (cell_lt (c_R0_1)) (f_R0_1) hg (by show w.heap.size ≠ (w.heap.size + 1); omega)
  have R_2 := Lib.hid hr1
  have T_2 := Lib.hid (gs_below (T_1.out) hg (by first | omega | (simp; done) | (simp; omega)) (by omega))
  have z_2 : w1.heap.size ≤ w2.heap.size := (by have := hg.size; (try simp at this); omega)
  have r_d_2 := Lib.hid (rdb_mono hd (show (w.heap.size + 1) + 1 ≤ _ by first | omega | (simp; done) | (simp; omega)))
  have lr_d := Lib.hid (rdb_lo r_d_2.out)
  have hr_d := Lib.hid (rdb_hi r_d_2.out)
  have ac_R0_2 := fun o => cell_b (c_R0_2) (below_alloc _ o)
  have bc_R0_2 := fun o o1 => cell_b (ac_R0_2 o) (below_alloc _ o1)
  have af_R0_2 := fun o => frz_b (cell_lt (c_R0_2)) (f_R0_2) (below_alloc _ o)
  have bf_R0_2 := fun o o1 => frz_b (cell_lt (ac_R0_2 o)) (af_R0_2 o) (below_alloc _ o1)
  clear hg c_R0_1 f_R0_1 hr1 R_1 T_1 ac_R0_1 bc_R0_1 af_R0_1 bf_R0_1 hd
  go_wp2_with fail
  refine bodyPost_ret (v := .agg #[.slice a xs.length cap]) (by simp [results, Try.results26, go_sem, c_R0_2]) rfl ⟨xs, a, cap, rfl, hx, rdb_mono (rdb_set (r_d_2.out) (fun g h => by have h1 := lr_d.out g h; have h2 := hr_d.out g h; show g ≠ w.heap.size; omega) _) (by omega), ((T_2.out).setCell (by show w.heap.size ≤ w.heap.size; omega) _)⟩
set_option maxHeartbeats 1000000 in
theorem S_DrawTellAll (w : World) (v : Value) (n : Nat) (hv : RdY w v n) (hn : n ≤ 4294967296) : Calls Try.prog 21 #[v] w (CodeCond w) := by
  go_enter Try.func21, Try.ntmps21
  have T_0 : Hid (Below w.heap.size w w) := Lib.hid (Below.refl _ _)
  go_wp2_with fail
  (with_reducible refine (S_l13Open _ _ n (rdy_b hv (below_alloc _ _)) hn).mono ?_)
  rintro e w1 ⟨q, hq, rfl, hr1, hb⟩
  (try simp at hq)
  subst hq
  have zr := rdr_lt hr1
  have c_R0_1 := cell_b (p := ⟨w.heap.size, 0, none⟩) (v := .slice none 0 0) (by simp) hb
  have f_R0_1 := frz_b (p := ⟨w.heap.size, 0, none⟩) (by first | omega | (simp; done) | (simp; omega)) (show _ = false by simp) hb
  have R_1 := Lib.hid hr1
  have T_1 := Lib.hid (below_trans (below_trans (T_0.out) (below_alloc _ _)) hb)
  have z_1 : w.heap.size + 1 ≤ w1.heap.size := (by have := hb.size; (try simp at this); omega)
  have ac_R0_1 := fun o => cell_b (c_R0_1) (below_alloc _ o)
  have bc_R0_1 := fun o o1 => cell_b (ac_R0_1 o) (below_alloc _ o1)
  have af_R0_1 := fun o => frz_b (cell_lt (c_R0_1)) (f_R0_1) (below_alloc _ o)
  have bf_R0_1 := fun o o1 => frz_b (cell_lt (ac_R0_1 o)) (af_R0_1 o) (below_alloc _ o1)
  clear hb hr1 T_0
  go_wp2_with fail
  (with_reducible refine (S_l3Cond _ _ 0 (R_1.out) (by omega)).mono ?_)
  rintro e w2 ⟨xs, a, cap, rfl, hx, hd, hr1, hg⟩
  have c_R0_2 := cell_gs (c_R0_1) hg (by show w.heap.size ≠ (w.heap.size + 1); omega)
  have f_R0_2 := frz_gs (p := ⟨w.heap.size, 0, none⟩) (cell_lt (c_R0_1)) (f_R0_1) hg (by show w.heap.size ≠ (w.heap.size + 1); omega)
  have R_2 := Lib.hid hr1
  have T_2 := Lib.hid (gs_below (T_1.out) hg (by first | omega | (simp; done) | (simp; omega)) (by omega))
  have z_2 : w1.heap.size ≤ w2.heap.size := (by have := hg.size; (try simp at this); omega)
  have r_d_2 := Lib.hid (rdb_mono hd (show (w.heap.size + 1) + 1 ≤ _ by first | omega | (simp; done) | (simp; omega)))
  have lr_d := Lib.hid (rdb_lo r_d_2.out)
  have hr_d := Lib.hid (rdb_hi r_d_2.out)
  have ac_R0_2 := fun o => cell_b (c_R0_2) (below_alloc _ o)
  have bc_R0_2 := fun o o1 => cell_b (ac_R0_2 o) (below_alloc _ o1)
  have af_R0_2 := fun o => frz_b (cell_lt (c_R0_2)) (f_R0_2) (below_alloc _ o)
  have bf_R0_2 := fun o o1 => frz_b (cell_lt (ac_R0_2 o)) (af_R0_2 o) (below_alloc _ o1)
  clear hg c_R0_1 f_R0_1 hr1 R_1 T_1 ac_R0_1 bc_R0_1 af_R0_1 bf_R0_1 hd
  go_wp2_with fail
  refine bodyPost_ret (v := .agg #[.slice a xs.length cap]) (by simp [results, Try.results21, go_sem, c_R0_2]) rfl ⟨xs, a, cap, rfl, hx, rdb_mono (rdb_set (r_d_2.out) (fun g h => by have h1 := lr_d.out g h; have h2 := hr_d.out g h; show g ≠ w.heap.size; omega) _) (by omega), ((T_2.out).setCell (by show w.heap.size ≤ w.heap.size; omega) _)⟩
set_option maxHeartbeats 1000000 in
theorem S_DrawWaitCond (w : World) (v : Value) (n : Nat) (hv : RdY w v n) (hn : n ≤ 4294967296) : Calls Try.prog 30 #[v] w (CodeCond2 w) := by
  go_enter Try.func30, Try.ntmps30
  have T_0 : Hid (Below w.heap.size w w) := Lib.hid (Below.refl _ _)
  go_wp2_with fail
  (with_reducible refine (S_l13Open _ _ n (rdy_b hv (below_alloc _ _)) hn).mono ?_)
  rintro e w1 ⟨q, hq, rfl, hr1, hb⟩
  (try simp at hq)
  subst hq
  have zr := rdr_lt hr1
  have c_R0_1 := cell_b (p := ⟨w.heap.size, 0, none⟩) (v := .slice none 0 0) (by simp) hb
  have f_R0_1 := frz_b (p := ⟨w.heap.size, 0, none⟩) (by first | omega | (simp; done) | (simp; omega)) (show _ = false by simp) hb
  have R_1 := Lib.hid hr1
  have T_1 := Lib.hid (below_trans (below_trans (T_0.out) (below_alloc _ _)) hb)
  have z_1 : w.heap.size + 1 ≤ w1.heap.size := (by have := hb.size; (try simp at this); omega)
  have ac_R0_1 := fun o => cell_b (c_R0_1) (below_alloc _ o)
  have bc_R0_1 := fun o o1 => cell_b (ac_R0_1 o) (below_alloc _ o1)
  have af_R0_1 := fun o => frz_b (cell_lt (c_R0_1)) (f_R0_1) (below_alloc _ o)
  have bf_R0_1 := fun o o1 => frz_b (cell_lt (ac_R0_1 o)) (af_R0_1 o) (below_alloc _ o1)
  clear hb hr1 T_0
  go_wp2_with fail
  (with_reducible refine (S_l3Cond _ _ 0 (R_1.out) (by omega)).mono ?_)
  rintro e w2 ⟨xs, a, cap, rfl, hx, hd, hr1, hg⟩
  have c_R0_2 := cell_gs (c_R0_1) hg (by show w.heap.size ≠ (w.heap.size + 1); omega)
  have f_R0_2 := frz_gs (p := ⟨w.heap.size, 0, none⟩) (cell_lt (c_R0_1)) (f_R0_1) hg (by show w.heap.size ≠ (w.heap.size + 1); omega)
  have R_2 := Lib.hid hr1
  have T_2 := Lib.hid (gs_below (T_1.out) hg (by first | omega | (simp; done) | (simp; omega)) (by omega))
  have z_2 : w1.heap.size ≤ w2.heap.size := (by have := hg.size; (try simp at this); omega)
  have r_d_2 := Lib.hid (rdb_mono hd (show (w.heap.size + 1) + 1 ≤ _ by first | omega | (simp; done) | (simp; omega)))
  have lr_d := Lib.hid (rdb_lo r_d_2.out)
  have hr_d := Lib.hid (rdb_hi r_d_2.out)
  have ac_R0_2 := fun o => cell_b (c_R0_2) (below_alloc _ o)
  have bc_R0_2 := fun o o1 => cell_b (ac_R0_2 o) (below_alloc _ o1)
  have af_R0_2 := fun o => frz_b (cell_lt (c_R0_2)) (f_R0_2) (below_alloc _ o)
  have bf_R0_2 := fun o o1 => frz_b (cell_lt (ac_R0_2 o)) (af_R0_2 o) (below_alloc _ o1)
  clear hg c_R0_1 f_R0_1 hr1 R_1 T_1 ac_R0_1 bc_R0_1 af_R0_1 bf_R0_1 hd
  go_wp2_with fail
  (with_reducible refine (S_num _ _ _ [0, 1, 2, 3, 4, 5, 6] (0 + 7) (rdr_b (R_2.out) (below_alloc _ _)) (by omega) (rdb_lit _ #[.int .i64 0, .int .i64 1, .int .i64 2, .int .i64 3, .int .i64 4, .int .i64 5, .int .i64 6] [0, 1, 2, 3, 4, 5, 6] rfl ((w.heap.size + 1) + 1) (w2.heap.size) 7 (by first | rfl | simp) rfl (by first | omega | (simp; omega))) (by decide) (by decide)).mono ?_)
  rintro e w3 ⟨x, rfl, hx2, hr1, hg⟩
  have c_R0_3 := cell_gs (cell_b (c_R0_2) (below_alloc _ _)) hg (by show w.heap.size ≠ (w.heap.size + 1); omega)
  have f_R0_3 := frz_gs (p := ⟨w.heap.size, 0, none⟩) (cell_lt (cell_b (c_R0_2) (below_alloc _ _))) (frz_b (cell_lt (c_R0_2)) (f_R0_2) (below_alloc _ _)) hg (by show w.heap.size ≠ (w.heap.size + 1); omega)
  have r_d_3 := Lib.hid (rdb_gs (rdb_b (r_d_2.out) (below_alloc _ _)) hg (by omega))
  have R_3 := Lib.hid hr1
  have T_3 := Lib.hid (gs_below (below_trans (T_2.out) (below_alloc _ _)) hg (by first | omega | (simp; done) | (simp; omega)) (by omega))
  have z_3 : w2.heap.size + 1 ≤ w3.heap.size := (by have := hg.size; (try simp at this); omega)
  have ac_R0_3 := fun o => cell_b (c_R0_3) (below_alloc _ o)
  have bc_R0_3 := fun o o1 => cell_b (ac_R0_3 o) (below_alloc _ o1)
  have af_R0_3 := fun o => frz_b (cell_lt (c_R0_3)) (f_R0_3) (below_alloc _ o)
  have bf_R0_3 := fun o o1 => frz_b (cell_lt (ac_R0_3 o)) (af_R0_3 o) (below_alloc _ o1)
  clear hg c_R0_2 f_R0_2 r_d_2 hr1 R_2 T_2 ac_R0_2 bc_R0_2 af_R0_2 bf_R0_2 hx2
  go_wp2_with fail
  refine bodyPost_ret (v := .tuple #[.agg #[.slice a xs.length cap], .int .i64 x]) (by simp [results, Try.results30, go_sem, c_R0_3]) rfl ⟨xs, x, a, cap, rfl, hx, rdb_mono (rdb_set (r_d_3.out) (fun g h => by have h1 := lr_d.out g h; have h2 := hr_d.out g h; show g ≠ w.heap.size; omega) _) (by omega), ((T_3.out).setCell (by show w.heap.size ≤ w.heap.size; omega) _)⟩
set_option maxHeartbeats 1000000 in
theorem S_DrawNewBarrier (w : World) (v : Value) (n : Nat) (hv : RdY w v n) (hn : n ≤ 4294967296) : Calls Try.prog 12 #[v] w (CodeNum w) := by
  go_enter Try.func12, Try.ntmps12
  have T_0 : Hid (Below w.heap.size w w) := Lib.hid (Below.refl _ _)
  go_wp2_with fail
  (with_reducible refine (S_l13Open _ _ n hv hn).mono ?_)
  rintro e w1 ⟨q, hq, rfl, hr1, hb⟩
  (try simp at hq)
  subst hq
  have zr := rdr_lt hr1
  have R_1 := Lib.hid hr1
  have T_1 := Lib.hid (below_trans (T_0.out) hb)
  have z_1 : w.heap.size ≤ w1.heap.size := (by have := hb.size; (try simp at this); omega)
  clear hb hr1 T_0
  go_wp2_with fail
  (with_reducible refine (S_num _ _ _ [3, 1, 2, 6, 4, 0, 7] 0 (rdr_b (R_1.out) (below_alloc _ _)) (by omega) (rdb_lit _ #[.int .i64 3, .int .i64 1, .int .i64 2, .int .i64 6, .int .i64 4, .int .i64 0, .int .i64 7] [3, 1, 2, 6, 4, 0, 7] rfl (w.heap.size + 1) (w1.heap.size) 7 (by first | rfl | simp) rfl (by first | omega | (simp; omega))) (by decide) (by decide)).mono ?_)
  rintro e w2 ⟨x, rfl, hx2, hr1, hg⟩
  have R_2 := Lib.hid hr1
  have T_2 := Lib.hid (gs_below (below_trans (T_1.out) (below_alloc _ _)) hg (by first | omega | (simp; done) | (simp; omega)) (by omega))
  have z_2 : w1.heap.size + 1 ≤ w2.heap.size := (by have := hg.size; (try simp at this); omega)
  clear hg hr1 R_1 T_1 hx2
  go_wp2_with fail
  go_ret
  exact ⟨x, rfl, (T_2.out)⟩
end Go.Proofs.Ytkglngcopflgeaa
