/- What the draws of onces hand back: some value that can be read. -/
import Derived.Test.YtgdhbhgkfcgjdaaGuard
import Derived.Test.YtgdhbhgkfcgjdaaQuickOnce
import Derived.Deep.RegionHeld3
import Derived.Deep.RegionLaw
import Derived.Deep.DrawnRows
namespace Go.Proofs.Ytgdhbhgkfcgjdaa
open Go.RowKit
attribute [local go_sem ↓] Go.wp_at_zero Go.wp_at_succ

set_option maxHeartbeats 1000000 in
set_option maxRecDepth 100000 in
theorem S_l2Once (w : World) (s o k : Int) (v : Value) (xs : List Int) (hv : RdB w 0 v xs) (hl : xs.length ≤ 1000) :
    Calls Try.prog 56 #[.agg #[.int .i64 s, .int .i64 o, .int .i64 k, v]] w fun e w' => ∃ a cap, e = .returned (.agg #[.int .i64 s, .int .i64 o, .int .i64 k, .slice a xs.length cap]) ∧ Ow w' w.heap.size (.slice a xs.length cap) xs ∧ Below w.heap.size w w' := by
  obtain ⟨i0, hi, hz0, hz1, hz2⟩ := info_parts info3
  have r_d_0 := Lib.hid hv
  have lr_d := Lib.hid (rdb_lo hv)
  have hr_d := Lib.hid (rdb_hi hv)
  obtain ⟨⟨a, cap, rfl, hcap, hnc, hc⟩, hb⟩ := hv
  clear hnc hc hb
  go_enter Try.func56, Try.ntmps56
  have T_0 : Hid (Below w.heap.size w w) := Lib.hid (Below.refl _ _)
  go_wp2_with fail
  have c_A0_5 : (((w).alloc (.cells #[.int .i64 s, .int .i64 o, .int .i64 k, .slice a xs.length cap] 39)).alloc (.cells #[.int .i64 0, .int .i64 0, .int .i64 0, .slice none 0 0] 39)).cell? ⟨w.heap.size, 0, none⟩ = some (.int .i64 s) := by simp
  have c_A1_5 : (((w).alloc (.cells #[.int .i64 s, .int .i64 o, .int .i64 k, .slice a xs.length cap] 39)).alloc (.cells #[.int .i64 0, .int .i64 0, .int .i64 0, .slice none 0 0] 39)).cell? ⟨w.heap.size, 1, none⟩ = some (.int .i64 o) := by simp
  have c_A2_5 : (((w).alloc (.cells #[.int .i64 s, .int .i64 o, .int .i64 k, .slice a xs.length cap] 39)).alloc (.cells #[.int .i64 0, .int .i64 0, .int .i64 0, .slice none 0 0] 39)).cell? ⟨w.heap.size, 2, none⟩ = some (.int .i64 k) := by simp
  have c_A3_5 : (((w).alloc (.cells #[.int .i64 s, .int .i64 o, .int .i64 k, .slice a xs.length cap] 39)).alloc (.cells #[.int .i64 0, .int .i64 0, .int .i64 0, .slice none 0 0] 39)).cell? ⟨w.heap.size, 3, none⟩ = some (.slice a xs.length cap) := by simp
  have c_R0_5 : (((w).alloc (.cells #[.int .i64 s, .int .i64 o, .int .i64 k, .slice a xs.length cap] 39)).alloc (.cells #[.int .i64 0, .int .i64 0, .int .i64 0, .slice none 0 0] 39)).cell? ⟨w.heap.size + 1, 0, none⟩ = some (.int .i64 0) := by simp
  have f_R0_5 : (((w).alloc (.cells #[.int .i64 s, .int .i64 o, .int .i64 k, .slice a xs.length cap] 39)).alloc (.cells #[.int .i64 0, .int .i64 0, .int .i64 0, .slice none 0 0] 39)).frozen? ⟨w.heap.size + 1, 0, none⟩ = false := by simp
  have c_R1_5 : (((w).alloc (.cells #[.int .i64 s, .int .i64 o, .int .i64 k, .slice a xs.length cap] 39)).alloc (.cells #[.int .i64 0, .int .i64 0, .int .i64 0, .slice none 0 0] 39)).cell? ⟨w.heap.size + 1, 1, none⟩ = some (.int .i64 0) := by simp
  have f_R1_5 : (((w).alloc (.cells #[.int .i64 s, .int .i64 o, .int .i64 k, .slice a xs.length cap] 39)).alloc (.cells #[.int .i64 0, .int .i64 0, .int .i64 0, .slice none 0 0] 39)).frozen? ⟨w.heap.size + 1, 1, none⟩ = false := by simp
  have c_R2_5 : (((w).alloc (.cells #[.int .i64 s, .int .i64 o, .int .i64 k, .slice a xs.length cap] 39)).alloc (.cells #[.int .i64 0, .int .i64 0, .int .i64 0, .slice none 0 0] 39)).cell? ⟨w.heap.size + 1, 2, none⟩ = some (.int .i64 0) := by simp
  have f_R2_5 : (((w).alloc (.cells #[.int .i64 s, .int .i64 o, .int .i64 k, .slice a xs.length cap] 39)).alloc (.cells #[.int .i64 0, .int .i64 0, .int .i64 0, .slice none 0 0] 39)).frozen? ⟨w.heap.size + 1, 2, none⟩ = false := by simp
  have c_R3_5 : (((w).alloc (.cells #[.int .i64 s, .int .i64 o, .int .i64 k, .slice a xs.length cap] 39)).alloc (.cells #[.int .i64 0, .int .i64 0, .int .i64 0, .slice none 0 0] 39)).cell? ⟨w.heap.size + 1, 3, none⟩ = some (.slice none 0 0) := by simp
  have f_R3_5 : (((w).alloc (.cells #[.int .i64 s, .int .i64 o, .int .i64 k, .slice a xs.length cap] 39)).alloc (.cells #[.int .i64 0, .int .i64 0, .int .i64 0, .slice none 0 0] 39)).frozen? ⟨w.heap.size + 1, 3, none⟩ = false := by simp
  have r_d_5 : Hid (RdB (((w).alloc (.cells #[.int .i64 s, .int .i64 o, .int .i64 k, .slice a xs.length cap] 39)).alloc (.cells #[.int .i64 0, .int .i64 0, .int .i64 0, .slice none 0 0] 39)) (0) (.slice a xs.length cap) (xs)) := Lib.hid ((rdb_b (rdb_b (r_d_0.out) (below_alloc _ _)) (below_alloc _ _)))
  have T_5 : Hid (Below w.heap.size w (((w).alloc (.cells #[.int .i64 s, .int .i64 o, .int .i64 k, .slice a xs.length cap] 39)).alloc (.cells #[.int .i64 0, .int .i64 0, .int .i64 0, .slice none 0 0] 39))) := Lib.hid (below_trans (below_trans (T_0.out) (below_alloc _ _)) (below_alloc _ _))
  have z_5 : w.heap.size + 2 ≤ (((w).alloc (.cells #[.int .i64 s, .int .i64 o, .int .i64 k, .slice a xs.length cap] 39)).alloc (.cells #[.int .i64 0, .int .i64 0, .int .i64 0, .slice none 0 0] 39)).heap.size := (by simp)
  clear r_d_0 T_0
  generalize ((w).alloc (.cells #[.int .i64 s, .int .i64 o, .int .i64 k, .slice a xs.length cap] 39)).alloc (.cells #[.int .i64 0, .int .i64 0, .int .i64 0, .slice none 0 0] 39) = w5 at *
  have ac_A0_5 := fun o => cell_b (c_A0_5) (below_alloc _ o)
  have bc_A0_5 := fun o o1 => cell_b (ac_A0_5 o) (below_alloc _ o1)
  have ac_A1_5 := fun o => cell_b (c_A1_5) (below_alloc _ o)
  have bc_A1_5 := fun o o1 => cell_b (ac_A1_5 o) (below_alloc _ o1)
  have ac_A2_5 := fun o => cell_b (c_A2_5) (below_alloc _ o)
  have bc_A2_5 := fun o o1 => cell_b (ac_A2_5 o) (below_alloc _ o1)
  have ac_A3_5 := fun o => cell_b (c_A3_5) (below_alloc _ o)
  have bc_A3_5 := fun o o1 => cell_b (ac_A3_5 o) (below_alloc _ o1)
  have ac_R0_5 := fun o => cell_b (c_R0_5) (below_alloc _ o)
  have bc_R0_5 := fun o o1 => cell_b (ac_R0_5 o) (below_alloc _ o1)
  have ac_R1_5 := fun o => cell_b (c_R1_5) (below_alloc _ o)
  have bc_R1_5 := fun o o1 => cell_b (ac_R1_5 o) (below_alloc _ o1)
  have ac_R2_5 := fun o => cell_b (c_R2_5) (below_alloc _ o)
  have bc_R2_5 := fun o o1 => cell_b (ac_R2_5 o) (below_alloc _ o1)
  have ac_R3_5 := fun o => cell_b (c_R3_5) (below_alloc _ o)
  have bc_R3_5 := fun o o1 => cell_b (ac_R3_5 o) (below_alloc _ o1)
  have af_R0_5 := fun o => frz_b (cell_lt (c_R0_5)) (f_R0_5) (below_alloc _ o)
  have bf_R0_5 := fun o o1 => frz_b (cell_lt (ac_R0_5 o)) (af_R0_5 o) (below_alloc _ o1)
  have af_R1_5 := fun o => frz_b (cell_lt (c_R1_5)) (f_R1_5) (below_alloc _ o)
  have bf_R1_5 := fun o o1 => frz_b (cell_lt (ac_R1_5 o)) (af_R1_5 o) (below_alloc _ o1)
  have af_R2_5 := fun o => frz_b (cell_lt (c_R2_5)) (f_R2_5) (below_alloc _ o)
  have bf_R2_5 := fun o o1 => frz_b (cell_lt (ac_R2_5 o)) (af_R2_5 o) (below_alloc _ o1)
  have af_R3_5 := fun o => frz_b (cell_lt (c_R3_5)) (f_R3_5) (below_alloc _ o)
  have bf_R3_5 := fun o o1 => frz_b (cell_lt (ac_R3_5 o)) (af_R3_5 o) (below_alloc _ o1)
  go_region_held3 (fun w' => w'.cell? ⟨w.heap.size, 0, none⟩ = some (.int .i64 s) ∧ w'.cell? ⟨w.heap.size, 1, none⟩ = some (.int .i64 o) ∧ w'.cell? ⟨w.heap.size, 2, none⟩ = some (.int .i64 k) ∧ w'.cell? ⟨w.heap.size, 3, none⟩ = some (.slice a xs.length cap)) (first | with_reducible exact ⟨c_A0_5, c_A1_5, c_A2_5, c_A3_5⟩ | with_reducible exact ⟨cell_b (c_A0_5) (drew_below _), cell_b (c_A1_5) (drew_below _), cell_b (c_A2_5) (drew_below _), cell_b (c_A3_5) (drew_below _)⟩ | with_reducible exact ⟨cell_b (c_A0_5) (below_alloc _ _), cell_b (c_A1_5) (below_alloc _ _), cell_b (c_A2_5) (below_alloc _ _), cell_b (c_A3_5) (below_alloc _ _)⟩ | with_reducible exact ⟨cell_b (cell_b (c_A0_5) (below_alloc _ _)) (drew_below _), cell_b (cell_b (c_A1_5) (below_alloc _ _)) (drew_below _), cell_b (cell_b (c_A2_5) (below_alloc _ _)) (drew_below _), cell_b (cell_b (c_A3_5) (below_alloc _ _)) (drew_below _)⟩ | with_reducible exact ⟨c_A0_6, c_A1_6, c_A2_6, c_A3_6⟩ | with_reducible exact ⟨cell_set (p := ⟨w.heap.size + 1, 0, none⟩) (c_A0_6) (ne_blk (by omega)), cell_set (p := ⟨w.heap.size + 1, 0, none⟩) (c_A1_6) (ne_blk (by omega)), cell_set (p := ⟨w.heap.size + 1, 0, none⟩) (c_A2_6) (ne_blk (by omega)), cell_set (p := ⟨w.heap.size + 1, 0, none⟩) (c_A3_6) (ne_blk (by omega))⟩ | with_reducible exact ⟨cell_set (p := ⟨w.heap.size + 1, 1, none⟩) (cell_set (p := ⟨w.heap.size + 1, 0, none⟩) (c_A0_6) (ne_blk (by omega))) (ne_blk (by omega)), cell_set (p := ⟨w.heap.size + 1, 1, none⟩) (cell_set (p := ⟨w.heap.size + 1, 0, none⟩) (c_A1_6) (ne_blk (by omega))) (ne_blk (by omega)), cell_set (p := ⟨w.heap.size + 1, 1, none⟩) (cell_set (p := ⟨w.heap.size + 1, 0, none⟩) (c_A2_6) (ne_blk (by omega))) (ne_blk (by omega)), cell_set (p := ⟨w.heap.size + 1, 1, none⟩) (cell_set (p := ⟨w.heap.size + 1, 0, none⟩) (c_A3_6) (ne_blk (by omega))) (ne_blk (by omega))⟩ | with_reducible exact ⟨cell_set (p := ⟨w.heap.size + 1, 2, none⟩) (cell_set (p := ⟨w.heap.size + 1, 1, none⟩) (cell_set (p := ⟨w.heap.size + 1, 0, none⟩) (c_A0_6) (ne_blk (by omega))) (ne_blk (by omega))) (ne_blk (by omega)), cell_set (p := ⟨w.heap.size + 1, 2, none⟩) (cell_set (p := ⟨w.heap.size + 1, 1, none⟩) (cell_set (p := ⟨w.heap.size + 1, 0, none⟩) (c_A1_6) (ne_blk (by omega))) (ne_blk (by omega))) (ne_blk (by omega)), cell_set (p := ⟨w.heap.size + 1, 2, none⟩) (cell_set (p := ⟨w.heap.size + 1, 1, none⟩) (cell_set (p := ⟨w.heap.size + 1, 0, none⟩) (c_A2_6) (ne_blk (by omega))) (ne_blk (by omega))) (ne_blk (by omega)), cell_set (p := ⟨w.heap.size + 1, 2, none⟩) (cell_set (p := ⟨w.heap.size + 1, 1, none⟩) (cell_set (p := ⟨w.heap.size + 1, 0, none⟩) (c_A3_6) (ne_blk (by omega))) (ne_blk (by omega))) (ne_blk (by omega))⟩ | with_reducible exact ⟨cell_set (p := ⟨w.heap.size + 1, 3, none⟩) (cell_set (p := ⟨w.heap.size + 1, 2, none⟩) (cell_set (p := ⟨w.heap.size + 1, 1, none⟩) (cell_set (p := ⟨w.heap.size + 1, 0, none⟩) (c_A0_6) (ne_blk (by omega))) (ne_blk (by omega))) (ne_blk (by omega))) (ne_blk (by omega)), cell_set (p := ⟨w.heap.size + 1, 3, none⟩) (cell_set (p := ⟨w.heap.size + 1, 2, none⟩) (cell_set (p := ⟨w.heap.size + 1, 1, none⟩) (cell_set (p := ⟨w.heap.size + 1, 0, none⟩) (c_A1_6) (ne_blk (by omega))) (ne_blk (by omega))) (ne_blk (by omega))) (ne_blk (by omega)), cell_set (p := ⟨w.heap.size + 1, 3, none⟩) (cell_set (p := ⟨w.heap.size + 1, 2, none⟩) (cell_set (p := ⟨w.heap.size + 1, 1, none⟩) (cell_set (p := ⟨w.heap.size + 1, 0, none⟩) (c_A2_6) (ne_blk (by omega))) (ne_blk (by omega))) (ne_blk (by omega))) (ne_blk (by omega)), cell_set (p := ⟨w.heap.size + 1, 3, none⟩) (cell_set (p := ⟨w.heap.size + 1, 2, none⟩) (cell_set (p := ⟨w.heap.size + 1, 1, none⟩) (cell_set (p := ⟨w.heap.size + 1, 0, none⟩) (c_A3_6) (ne_blk (by omega))) (ne_blk (by omega))) (ne_blk (by omega))) (ne_blk (by omega))⟩ | go_keep)
    (first | (refine step_append_rd (w := ((w5).alloc (.cells #[] 3)).drew) rfl _ _ 23 rfl (w5.heap.size) i0 Try.underlying23 hi hz0 hz1 hz2 (.slice (some ⟨w5.heap.size, 0, none⟩) 0 0) 0 [] rfl (own_below (ow_made_at (w5) (w5.heap.size) (w5.heap.size) (by first | rfl | simp) (Nat.le_refl _)) (drew_below _)) _ _ _ (xs) rfl (rdb_rd (rdb_b (rdb_b (r_d_5.out) (below_alloc _ _)) (drew_below _))) rfl (by first | (unfold maxLen; omega) | (unfold maxLen; simp; omega)) (by first | omega | (simp; omega)) (by first | omega | (simp; done) | (simp; omega)) ?_; intro v6 w6 hown hgr hloc; have ho : w6.ownsRow (w5.heap.size) 3 1 v6 ((xs).length) (ints (xs)) := (by rw [Nat.zero_add, List.nil_append] at hown; exact hown); obtain ⟨a1, cap1, hv⟩ := own_shape ho; subst hv; have iv_e : Hid (∀ g, (Value.slice a1 ((xs).length) cap1).ownBlock = some g → (w5.heap.size ≤ g ∧ g < w5.heap.size + 1) ∨ (w5.heap.size + 1 ≤ g ∧ g < w6.heap.size)) := Lib.hid (fun g h => by have h9 := hgr.size; have h7 := own_hi ho g h; rcases hloc with h8 | h8 <;> rw [h8] at h <;> (simp only [Value.ownBlock, Option.some.injEq] at h; (try simp at h9); (try simp at h); omega)); have c_A0_6 := cell_gr (cell_b (cell_b (c_A0_5) (below_alloc _ _)) (drew_below _)) hgr (fun g h => by simp only [Value.ownBlock, Option.some.injEq] at h; show w.heap.size ≠ g; omega); have c_A1_6 := cell_gr (cell_b (cell_b (c_A1_5) (below_alloc _ _)) (drew_below _)) hgr (fun g h => by simp only [Value.ownBlock, Option.some.injEq] at h; show w.heap.size ≠ g; omega); have c_A2_6 := cell_gr (cell_b (cell_b (c_A2_5) (below_alloc _ _)) (drew_below _)) hgr (fun g h => by simp only [Value.ownBlock, Option.some.injEq] at h; show w.heap.size ≠ g; omega); have c_A3_6 := cell_gr (cell_b (cell_b (c_A3_5) (below_alloc _ _)) (drew_below _)) hgr (fun g h => by simp only [Value.ownBlock, Option.some.injEq] at h; show w.heap.size ≠ g; omega); have c_R0_6 := cell_gr (cell_b (cell_b (c_R0_5) (below_alloc _ _)) (drew_below _)) hgr (fun g h => by simp only [Value.ownBlock, Option.some.injEq] at h; show w.heap.size + 1 ≠ g; omega); have c_R1_6 := cell_gr (cell_b (cell_b (c_R1_5) (below_alloc _ _)) (drew_below _)) hgr (fun g h => by simp only [Value.ownBlock, Option.some.injEq] at h; show w.heap.size + 1 ≠ g; omega); have c_R2_6 := cell_gr (cell_b (cell_b (c_R2_5) (below_alloc _ _)) (drew_below _)) hgr (fun g h => by simp only [Value.ownBlock, Option.some.injEq] at h; show w.heap.size + 1 ≠ g; omega); have c_R3_6 := cell_gr (cell_b (cell_b (c_R3_5) (below_alloc _ _)) (drew_below _)) hgr (fun g h => by simp only [Value.ownBlock, Option.some.injEq] at h; show w.heap.size + 1 ≠ g; omega); have f_R0_6 := (frz_gr (p := ⟨w.heap.size + 1, 0, none⟩) (cell_lt (cell_b (cell_b (c_R0_5) (below_alloc _ _)) (drew_below _))) hgr (fun g h => by simp only [Value.ownBlock, Option.some.injEq] at h; show w.heap.size + 1 ≠ g; omega)).trans (frz_b (cell_lt (cell_b (c_R0_5) (below_alloc _ _))) (frz_b (cell_lt (c_R0_5)) (f_R0_5) (below_alloc _ _)) (drew_below _)); have f_R1_6 := (frz_gr (p := ⟨w.heap.size + 1, 1, none⟩) (cell_lt (cell_b (cell_b (c_R1_5) (below_alloc _ _)) (drew_below _))) hgr (fun g h => by simp only [Value.ownBlock, Option.some.injEq] at h; show w.heap.size + 1 ≠ g; omega)).trans (frz_b (cell_lt (cell_b (c_R1_5) (below_alloc _ _))) (frz_b (cell_lt (c_R1_5)) (f_R1_5) (below_alloc _ _)) (drew_below _)); have f_R2_6 := (frz_gr (p := ⟨w.heap.size + 1, 2, none⟩) (cell_lt (cell_b (cell_b (c_R2_5) (below_alloc _ _)) (drew_below _))) hgr (fun g h => by simp only [Value.ownBlock, Option.some.injEq] at h; show w.heap.size + 1 ≠ g; omega)).trans (frz_b (cell_lt (cell_b (c_R2_5) (below_alloc _ _))) (frz_b (cell_lt (c_R2_5)) (f_R2_5) (below_alloc _ _)) (drew_below _)); have f_R3_6 := (frz_gr (p := ⟨w.heap.size + 1, 3, none⟩) (cell_lt (cell_b (cell_b (c_R3_5) (below_alloc _ _)) (drew_below _))) hgr (fun g h => by simp only [Value.ownBlock, Option.some.injEq] at h; show w.heap.size + 1 ≠ g; omega)).trans (frz_b (cell_lt (cell_b (c_R3_5) (below_alloc _ _))) (frz_b (cell_lt (c_R3_5)) (f_R3_5) (below_alloc _ _)) (drew_below _)); have r_d_6 := Lib.hid (rdb_gr (rdb_b (rdb_b (r_d_5.out) (below_alloc _ _)) (drew_below _)) hgr (fun g g' h h' => by simp only [Value.ownBlock, Option.some.injEq] at h; have h3 := lr_d.out g' h'; have h4 := hr_d.out g' h'; omega)); have T_6 := Lib.hid (below_gr (below_trans (below_trans (T_5.out) (below_alloc _ _)) (drew_below _)) (by first | omega | (simp; done) | (simp; omega)) hgr (fun g h => by simp only [Value.ownBlock, Option.some.injEq] at h; omega)); have z_6 : w5.heap.size + 1 ≤ w6.heap.size := (by have := hgr.size; (try simp at this); omega); have o_e_6 := Lib.hid ho; have lo_e := Lib.hid (own_lo o_e_6.out); have hi_e := Lib.hid (own_hi o_e_6.out); have ac_A0_6 := fun o => cell_b (c_A0_6) (below_alloc _ o); have bc_A0_6 := fun o o1 => cell_b (ac_A0_6 o) (below_alloc _ o1); have ac_A1_6 := fun o => cell_b (c_A1_6) (below_alloc _ o); have bc_A1_6 := fun o o1 => cell_b (ac_A1_6 o) (below_alloc _ o1); have ac_A2_6 := fun o => cell_b (c_A2_6) (below_alloc _ o); have bc_A2_6 := fun o o1 => cell_b (ac_A2_6 o) (below_alloc _ o1); have ac_A3_6 := fun o => cell_b (c_A3_6) (below_alloc _ o); have bc_A3_6 := fun o o1 => cell_b (ac_A3_6 o) (below_alloc _ o1); have ac_R0_6 := fun o => cell_b (c_R0_6) (below_alloc _ o); have bc_R0_6 := fun o o1 => cell_b (ac_R0_6 o) (below_alloc _ o1); have ac_R1_6 := fun o => cell_b (c_R1_6) (below_alloc _ o); have bc_R1_6 := fun o o1 => cell_b (ac_R1_6 o) (below_alloc _ o1); have ac_R2_6 := fun o => cell_b (c_R2_6) (below_alloc _ o); have bc_R2_6 := fun o o1 => cell_b (ac_R2_6 o) (below_alloc _ o1); have ac_R3_6 := fun o => cell_b (c_R3_6) (below_alloc _ o); have bc_R3_6 := fun o o1 => cell_b (ac_R3_6 o) (below_alloc _ o1); have af_R0_6 := fun o => frz_b (cell_lt (c_R0_6)) (f_R0_6) (below_alloc _ o); have bf_R0_6 := fun o o1 => frz_b (cell_lt (ac_R0_6 o)) (af_R0_6 o) (below_alloc _ o1); have af_R1_6 := fun o => frz_b (cell_lt (c_R1_6)) (f_R1_6) (below_alloc _ o); have bf_R1_6 := fun o o1 => frz_b (cell_lt (ac_R1_6 o)) (af_R1_6 o) (below_alloc _ o1); have af_R2_6 := fun o => frz_b (cell_lt (c_R2_6)) (f_R2_6) (below_alloc _ o); have bf_R2_6 := fun o o1 => frz_b (cell_lt (ac_R2_6 o)) (af_R2_6 o) (below_alloc _ o1); have af_R3_6 := fun o => frz_b (cell_lt (c_R3_6)) (f_R3_6) (below_alloc _ o); have bf_R3_6 := fun o o1 => frz_b (cell_lt (ac_R3_6 o)) (af_R3_6 o) (below_alloc _ o1); clear hgr c_A0_5 c_A1_5 c_A2_5 c_A3_5 c_R0_5 c_R1_5 c_R2_5 c_R3_5 f_R0_5 f_R1_5 f_R2_5 f_R3_5 r_d_5 T_5 ac_A0_5 bc_A0_5 ac_A1_5 bc_A1_5 ac_A2_5 bc_A2_5 ac_A3_5 bc_A3_5 ac_R0_5 bc_R0_5 ac_R1_5 bc_R1_5 ac_R2_5 bc_R2_5 ac_R3_5 bc_R3_5 af_R0_5 bf_R0_5 af_R1_5 bf_R1_5 af_R2_5 bf_R2_5 af_R3_5 bf_R3_5 hown ho hloc))
  go_wp2_with fail
  refine bodyPost_ret (v := .agg #[.int .i64 s, .int .i64 o, .int .i64 k, .slice a1 (xs.length) cap1]) (by simp [results, Try.results56, go_sem, c_R0_6, c_R1_6, c_R2_6, c_R3_6]) rfl ⟨a1, cap1, rfl, own_base (own_set (p := ⟨w.heap.size + 1, 3, none⟩) (own_set (p := ⟨w.heap.size + 1, 2, none⟩) (own_set (p := ⟨w.heap.size + 1, 1, none⟩) (own_set (p := ⟨w.heap.size + 1, 0, none⟩) (o_e_6.out) (fun g h => by have h1 := lo_e.out g h; have h2 := hi_e.out g h; have h5 := iv_e.out g h; show g ≠ w.heap.size + 1; omega) _) (fun g h => by have h1 := lo_e.out g h; have h2 := hi_e.out g h; have h5 := iv_e.out g h; show g ≠ w.heap.size + 1; omega) _) (fun g h => by have h1 := lo_e.out g h; have h2 := hi_e.out g h; have h5 := iv_e.out g h; show g ≠ w.heap.size + 1; omega) _) (fun g h => by have h1 := lo_e.out g h; have h2 := hi_e.out g h; have h5 := iv_e.out g h; show g ≠ w.heap.size + 1; omega) _) (by omega), (((((T_6.out).setCell (p := ⟨w.heap.size + 1, 0, none⟩) (by show w.heap.size ≤ w.heap.size + 1; omega) _).setCell (p := ⟨w.heap.size + 1, 1, none⟩) (by show w.heap.size ≤ w.heap.size + 1; omega) _).setCell (p := ⟨w.heap.size + 1, 2, none⟩) (by show w.heap.size ≤ w.heap.size + 1; omega) _).setCell (p := ⟨w.heap.size + 1, 3, none⟩) (by show w.heap.size ≤ w.heap.size + 1; omega) _)⟩
/-- What EnterOnce hands back: some once. -/
def EnterP (w : World) (m : Nat) (e : Ending) (w' : World) : Prop :=
  ∃ (s o k : Int) (ys : List Int) (a : Option Addr) (cap : Nat) (z : Int) (ok : Bool), e = .returned (.tuple #[.agg #[.int .i64 s, .int .i64 o, .int .i64 k, .slice a ys.length cap], .int .i64 z, .bool ok]) ∧ ys.length ≤ m + 1 ∧ RdB w' w.heap.size (.slice a ys.length cap) ys ∧ Below w.heap.size w w'
set_option maxHeartbeats 4000000 in
set_option maxRecDepth 100000 in
theorem S_EnterOnce (w : World) (s o k : Int) (v : Value) (xs : List Int) (t : Int) (hv : RdB w 0 v xs) (hl : xs.length ≤ 1000) :
    Calls Try.prog 54 #[.agg #[.int .i64 s, .int .i64 o, .int .i64 k, v], .int .i64 t] w (EnterP w xs.length) := by
  obtain ⟨i0, hi, hz0, hz1, hz2⟩ := info_parts info3
  have r_d_0 := Lib.hid hv
  have lr_d := Lib.hid (rdb_lo hv)
  have hr_d := Lib.hid (rdb_hi hv)
  obtain ⟨⟨a, cap, rfl, hcap, hnc, hc⟩, hb⟩ := hv
  clear hnc hc hb
  by_cases hv : oval s o k xs = true
  · have HV := Lib.hid hv
    by_cases ht : thr t = true
    · by_cases h0 : s = 0
      · subst h0
        go_enter Try.func54, Try.ntmps54
        have T_0 : Hid (Below w.heap.size w w) := Lib.hid (Below.refl _ _)
        go_wp2_with fail
        (with_reducible refine (S_OnceValid_q _ 0 o k _ xs true (rdb_rd (rdb_b (rdb_b (r_d_0.out) (below_alloc _ _)) (below_alloc _ _))) (by omega) HV.out).mono ?_)
        rintro e w1 ⟨rfl, hb⟩
        have c_A0_1 := cell_b (p := ⟨w.heap.size, 0, none⟩) (v := .int .i64 0) (by first | (simp; done) | (simp [World.cell?_alloc_past, World.cell?_alloc_at]; done)) hb
        have c_A1_1 := cell_b (p := ⟨w.heap.size, 1, none⟩) (v := .int .i64 o) (by first | (simp; done) | (simp [World.cell?_alloc_past, World.cell?_alloc_at]; done)) hb
        have c_A2_1 := cell_b (p := ⟨w.heap.size, 2, none⟩) (v := .int .i64 k) (by first | (simp; done) | (simp [World.cell?_alloc_past, World.cell?_alloc_at]; done)) hb
        have c_A3_1 := cell_b (p := ⟨w.heap.size, 3, none⟩) (v := .slice a xs.length cap) (by first | (simp; done) | (simp [World.cell?_alloc_past, World.cell?_alloc_at]; done)) hb
        have c_R0_1 := cell_b (p := ⟨w.heap.size + 1, 0, none⟩) (v := .int .i64 0) (by first | (simp; done) | (simp [World.cell?_alloc_past, World.cell?_alloc_at]; done)) hb
        have f_R0_1 := frz_b (p := ⟨w.heap.size + 1, 0, none⟩) (by first | omega | (simp; done) | (simp; omega)) (show _ = false by first | (simp; done) | (simp [World.frozen?_alloc_past, World.frozen?_alloc_at]; done)) hb
        have c_R1_1 := cell_b (p := ⟨w.heap.size + 1, 1, none⟩) (v := .int .i64 0) (by first | (simp; done) | (simp [World.cell?_alloc_past, World.cell?_alloc_at]; done)) hb
        have f_R1_1 := frz_b (p := ⟨w.heap.size + 1, 1, none⟩) (by first | omega | (simp; done) | (simp; omega)) (show _ = false by first | (simp; done) | (simp [World.frozen?_alloc_past, World.frozen?_alloc_at]; done)) hb
        have c_R2_1 := cell_b (p := ⟨w.heap.size + 1, 2, none⟩) (v := .int .i64 0) (by first | (simp; done) | (simp [World.cell?_alloc_past, World.cell?_alloc_at]; done)) hb
        have f_R2_1 := frz_b (p := ⟨w.heap.size + 1, 2, none⟩) (by first | omega | (simp; done) | (simp; omega)) (show _ = false by first | (simp; done) | (simp [World.frozen?_alloc_past, World.frozen?_alloc_at]; done)) hb
        have c_R3_1 := cell_b (p := ⟨w.heap.size + 1, 3, none⟩) (v := .slice none 0 0) (by first | (simp; done) | (simp [World.cell?_alloc_past, World.cell?_alloc_at]; done)) hb
        have f_R3_1 := frz_b (p := ⟨w.heap.size + 1, 3, none⟩) (by first | omega | (simp; done) | (simp; omega)) (show _ = false by first | (simp; done) | (simp [World.frozen?_alloc_past, World.frozen?_alloc_at]; done)) hb
        have r_d_1 := Lib.hid (rdb_b (rdb_b (rdb_b (r_d_0.out) (below_alloc _ _)) (below_alloc _ _)) hb)
        have T_1 := Lib.hid (below_trans (below_trans (below_trans (T_0.out) (below_alloc _ _)) (below_alloc _ _)) hb)
        have z_1 : w.heap.size + 2 ≤ w1.heap.size := (by have := hb.size; (try simp at this); omega)
        have ac_A0_1 := fun o => cell_b (c_A0_1) (below_alloc _ o)
        have bc_A0_1 := fun o o1 => cell_b (ac_A0_1 o) (below_alloc _ o1)
        have ac_A1_1 := fun o => cell_b (c_A1_1) (below_alloc _ o)
        have bc_A1_1 := fun o o1 => cell_b (ac_A1_1 o) (below_alloc _ o1)
        have ac_A2_1 := fun o => cell_b (c_A2_1) (below_alloc _ o)
        have bc_A2_1 := fun o o1 => cell_b (ac_A2_1 o) (below_alloc _ o1)
        have ac_A3_1 := fun o => cell_b (c_A3_1) (below_alloc _ o)
        have bc_A3_1 := fun o o1 => cell_b (ac_A3_1 o) (below_alloc _ o1)
        have ac_R0_1 := fun o => cell_b (c_R0_1) (below_alloc _ o)
        have bc_R0_1 := fun o o1 => cell_b (ac_R0_1 o) (below_alloc _ o1)
        have ac_R1_1 := fun o => cell_b (c_R1_1) (below_alloc _ o)
        have bc_R1_1 := fun o o1 => cell_b (ac_R1_1 o) (below_alloc _ o1)
        have ac_R2_1 := fun o => cell_b (c_R2_1) (below_alloc _ o)
        have bc_R2_1 := fun o o1 => cell_b (ac_R2_1 o) (below_alloc _ o1)
        have ac_R3_1 := fun o => cell_b (c_R3_1) (below_alloc _ o)
        have bc_R3_1 := fun o o1 => cell_b (ac_R3_1 o) (below_alloc _ o1)
        have af_R0_1 := fun o => frz_b (cell_lt (c_R0_1)) (f_R0_1) (below_alloc _ o)
        have bf_R0_1 := fun o o1 => frz_b (cell_lt (ac_R0_1 o)) (af_R0_1 o) (below_alloc _ o1)
        have af_R1_1 := fun o => frz_b (cell_lt (c_R1_1)) (f_R1_1) (below_alloc _ o)
        have bf_R1_1 := fun o o1 => frz_b (cell_lt (ac_R1_1 o)) (af_R1_1 o) (below_alloc _ o1)
        have af_R2_1 := fun o => frz_b (cell_lt (c_R2_1)) (f_R2_1) (below_alloc _ o)
        have bf_R2_1 := fun o o1 => frz_b (cell_lt (ac_R2_1 o)) (af_R2_1 o) (below_alloc _ o1)
        have af_R3_1 := fun o => frz_b (cell_lt (c_R3_1)) (f_R3_1) (below_alloc _ o)
        have bf_R3_1 := fun o o1 => frz_b (cell_lt (ac_R3_1 o)) (af_R3_1 o) (below_alloc _ o1)
        clear hb r_d_0 T_0
        go_wp2_with fail
        (with_reducible refine (same_b (S_l1Thread _ t)).mono ?_)
        rintro e w2 ⟨rfl, hb⟩
        have c_A0_2 := cell_b (c_A0_1) hb
        have c_A1_2 := cell_b (c_A1_1) hb
        have c_A2_2 := cell_b (c_A2_1) hb
        have c_A3_2 := cell_b (c_A3_1) hb
        have c_R0_2 := cell_b (c_R0_1) hb
        have c_R1_2 := cell_b (c_R1_1) hb
        have c_R2_2 := cell_b (c_R2_1) hb
        have c_R3_2 := cell_b (c_R3_1) hb
        have f_R0_2 := frz_b (cell_lt (c_R0_1)) (f_R0_1) hb
        have f_R1_2 := frz_b (cell_lt (c_R1_1)) (f_R1_1) hb
        have f_R2_2 := frz_b (cell_lt (c_R2_1)) (f_R2_1) hb
        have f_R3_2 := frz_b (cell_lt (c_R3_1)) (f_R3_1) hb
        have r_d_2 := Lib.hid (rdb_b (r_d_1.out) hb)
        have T_2 := Lib.hid (below_trans (T_1.out) hb)
        have z_2 : w1.heap.size ≤ w2.heap.size := (by have := hb.size; (try simp at this); omega)
        have ac_A0_2 := fun o => cell_b (c_A0_2) (below_alloc _ o)
        have bc_A0_2 := fun o o1 => cell_b (ac_A0_2 o) (below_alloc _ o1)
        have ac_A1_2 := fun o => cell_b (c_A1_2) (below_alloc _ o)
        have bc_A1_2 := fun o o1 => cell_b (ac_A1_2 o) (below_alloc _ o1)
        have ac_A2_2 := fun o => cell_b (c_A2_2) (below_alloc _ o)
        have bc_A2_2 := fun o o1 => cell_b (ac_A2_2 o) (below_alloc _ o1)
        have ac_A3_2 := fun o => cell_b (c_A3_2) (below_alloc _ o)
        have bc_A3_2 := fun o o1 => cell_b (ac_A3_2 o) (below_alloc _ o1)
        have ac_R0_2 := fun o => cell_b (c_R0_2) (below_alloc _ o)
        have bc_R0_2 := fun o o1 => cell_b (ac_R0_2 o) (below_alloc _ o1)
        have ac_R1_2 := fun o => cell_b (c_R1_2) (below_alloc _ o)
        have bc_R1_2 := fun o o1 => cell_b (ac_R1_2 o) (below_alloc _ o1)
        have ac_R2_2 := fun o => cell_b (c_R2_2) (below_alloc _ o)
        have bc_R2_2 := fun o o1 => cell_b (ac_R2_2 o) (below_alloc _ o1)
        have ac_R3_2 := fun o => cell_b (c_R3_2) (below_alloc _ o)
        have bc_R3_2 := fun o o1 => cell_b (ac_R3_2 o) (below_alloc _ o1)
        have af_R0_2 := fun o => frz_b (cell_lt (c_R0_2)) (f_R0_2) (below_alloc _ o)
        have bf_R0_2 := fun o o1 => frz_b (cell_lt (ac_R0_2 o)) (af_R0_2 o) (below_alloc _ o1)
        have af_R1_2 := fun o => frz_b (cell_lt (c_R1_2)) (f_R1_2) (below_alloc _ o)
        have bf_R1_2 := fun o o1 => frz_b (cell_lt (ac_R1_2 o)) (af_R1_2 o) (below_alloc _ o1)
        have af_R2_2 := fun o => frz_b (cell_lt (c_R2_2)) (f_R2_2) (below_alloc _ o)
        have bf_R2_2 := fun o o1 => frz_b (cell_lt (ac_R2_2 o)) (af_R2_2 o) (below_alloc _ o1)
        have af_R3_2 := fun o => frz_b (cell_lt (c_R3_2)) (f_R3_2) (below_alloc _ o)
        have bf_R3_2 := fun o o1 => frz_b (cell_lt (ac_R3_2 o)) (af_R3_2 o) (below_alloc _ o1)
        clear hb c_A0_1 c_A1_1 c_A2_1 c_A3_1 c_R0_1 c_R1_1 c_R2_1 c_R3_1 f_R0_1 f_R1_1 f_R2_1 f_R3_1 r_d_1 T_1 ac_A0_1 bc_A0_1 ac_A1_1 bc_A1_1 ac_A2_1 bc_A2_1 ac_A3_1 bc_A3_1 ac_R0_1 bc_R0_1 ac_R1_1 bc_R1_1 ac_R2_1 bc_R2_1 ac_R3_1 bc_R3_1 af_R0_1 bf_R0_1 af_R1_1 bf_R1_1 af_R2_1 bf_R2_1 af_R3_1 bf_R3_1
        go_wp2_with fail
        (with_reducible refine (S_l2Once _ 0 o k _ xs (r_d_2.out) (by omega)).mono ?_)
        rintro e w3 ⟨a1, cap1, rfl, hd, hb⟩
        have c_A0_3 := cell_b (c_A0_2) hb
        have c_A1_3 := cell_b (c_A1_2) hb
        have c_A2_3 := cell_b (c_A2_2) hb
        have c_A3_3 := cell_b (c_A3_2) hb
        have c_R0_3 := cell_b (c_R0_2) hb
        have c_R1_3 := cell_b (c_R1_2) hb
        have c_R2_3 := cell_b (c_R2_2) hb
        have c_R3_3 := cell_b (c_R3_2) hb
        have f_R0_3 := frz_b (cell_lt (c_R0_2)) (f_R0_2) hb
        have f_R1_3 := frz_b (cell_lt (c_R1_2)) (f_R1_2) hb
        have f_R2_3 := frz_b (cell_lt (c_R2_2)) (f_R2_2) hb
        have f_R3_3 := frz_b (cell_lt (c_R3_2)) (f_R3_2) hb
        have r_d_3 := Lib.hid (rdb_b (r_d_2.out) hb)
        have T_3 := Lib.hid (below_trans (T_2.out) hb)
        have z_3 : w2.heap.size ≤ w3.heap.size := (by have := hb.size; (try simp at this); omega)
        have o_e_3 := Lib.hid (own_base hd (show w2.heap.size ≤ _ by first | omega | (simp; done) | (simp; omega)))
        have lo_e := Lib.hid (own_lo o_e_3.out)
        have hi_e := Lib.hid (own_hi o_e_3.out)
        have ac_A0_3 := fun o => cell_b (c_A0_3) (below_alloc _ o)
        have bc_A0_3 := fun o o1 => cell_b (ac_A0_3 o) (below_alloc _ o1)
        have ac_A1_3 := fun o => cell_b (c_A1_3) (below_alloc _ o)
        have bc_A1_3 := fun o o1 => cell_b (ac_A1_3 o) (below_alloc _ o1)
        have ac_A2_3 := fun o => cell_b (c_A2_3) (below_alloc _ o)
        have bc_A2_3 := fun o o1 => cell_b (ac_A2_3 o) (below_alloc _ o1)
        have ac_A3_3 := fun o => cell_b (c_A3_3) (below_alloc _ o)
        have bc_A3_3 := fun o o1 => cell_b (ac_A3_3 o) (below_alloc _ o1)
        have ac_R0_3 := fun o => cell_b (c_R0_3) (below_alloc _ o)
        have bc_R0_3 := fun o o1 => cell_b (ac_R0_3 o) (below_alloc _ o1)
        have ac_R1_3 := fun o => cell_b (c_R1_3) (below_alloc _ o)
        have bc_R1_3 := fun o o1 => cell_b (ac_R1_3 o) (below_alloc _ o1)
        have ac_R2_3 := fun o => cell_b (c_R2_3) (below_alloc _ o)
        have bc_R2_3 := fun o o1 => cell_b (ac_R2_3 o) (below_alloc _ o1)
        have ac_R3_3 := fun o => cell_b (c_R3_3) (below_alloc _ o)
        have bc_R3_3 := fun o o1 => cell_b (ac_R3_3 o) (below_alloc _ o1)
        have af_R0_3 := fun o => frz_b (cell_lt (c_R0_3)) (f_R0_3) (below_alloc _ o)
        have bf_R0_3 := fun o o1 => frz_b (cell_lt (ac_R0_3 o)) (af_R0_3 o) (below_alloc _ o1)
        have af_R1_3 := fun o => frz_b (cell_lt (c_R1_3)) (f_R1_3) (below_alloc _ o)
        have bf_R1_3 := fun o o1 => frz_b (cell_lt (ac_R1_3 o)) (af_R1_3 o) (below_alloc _ o1)
        have af_R2_3 := fun o => frz_b (cell_lt (c_R2_3)) (f_R2_3) (below_alloc _ o)
        have bf_R2_3 := fun o o1 => frz_b (cell_lt (ac_R2_3 o)) (af_R2_3 o) (below_alloc _ o1)
        have af_R3_3 := fun o => frz_b (cell_lt (c_R3_3)) (f_R3_3) (below_alloc _ o)
        have bf_R3_3 := fun o o1 => frz_b (cell_lt (ac_R3_3 o)) (af_R3_3 o) (below_alloc _ o1)
        clear hb c_A0_2 c_A1_2 c_A2_2 c_A3_2 c_R0_2 c_R1_2 c_R2_2 c_R3_2 f_R0_2 f_R1_2 f_R2_2 f_R3_2 r_d_2 T_2 ac_A0_2 bc_A0_2 ac_A1_2 bc_A1_2 ac_A2_2 bc_A2_2 ac_A3_2 bc_A3_2 ac_R0_2 bc_R0_2 ac_R1_2 bc_R1_2 ac_R2_2 bc_R2_2 ac_R3_2 bc_R3_2 af_R0_2 bf_R0_2 af_R1_2 bf_R1_2 af_R2_2 bf_R2_2 af_R3_2 bf_R3_2 hd
        go_wp2_with fail
        refine bodyPost_ret (v := .tuple #[.agg #[.int .i64 1, .int .i64 t, .int .i64 0, .slice none 0 0], .int .i64 0, .bool true]) (by simp [results, Try.results54, go_sem, ac_R0_3, ac_R1_3, ac_R2_3, ac_R3_3]) rfl ⟨1, t, 0, [], none, 0, 0, true, rfl, by simp, rdb_nil _ _, (((((below_trans (T_3.out) (below_alloc _ _)).setCell (p := ⟨w.heap.size + 1, 0, none⟩) (by show w.heap.size ≤ w.heap.size + 1; omega) _).setCell (p := ⟨w.heap.size + 1, 1, none⟩) (by show w.heap.size ≤ w.heap.size + 1; omega) _).setCell (p := ⟨w.heap.size + 1, 2, none⟩) (by show w.heap.size ≤ w.heap.size + 1; omega) _).setCell (p := ⟨w.heap.size + 1, 3, none⟩) (by show w.heap.size ≤ w.heap.size + 1; omega) _)⟩
      by_cases h2 : s = 2
      · subst h2
        go_enter Try.func54, Try.ntmps54
        have T_0 : Hid (Below w.heap.size w w) := Lib.hid (Below.refl _ _)
        go_wp2_with fail
        (with_reducible refine (S_OnceValid_q _ 2 o k _ xs true (rdb_rd (rdb_b (rdb_b (r_d_0.out) (below_alloc _ _)) (below_alloc _ _))) (by omega) HV.out).mono ?_)
        rintro e w1 ⟨rfl, hb⟩
        have c_A0_1 := cell_b (p := ⟨w.heap.size, 0, none⟩) (v := .int .i64 2) (by first | (simp; done) | (simp [World.cell?_alloc_past, World.cell?_alloc_at]; done)) hb
        have c_A1_1 := cell_b (p := ⟨w.heap.size, 1, none⟩) (v := .int .i64 o) (by first | (simp; done) | (simp [World.cell?_alloc_past, World.cell?_alloc_at]; done)) hb
        have c_A2_1 := cell_b (p := ⟨w.heap.size, 2, none⟩) (v := .int .i64 k) (by first | (simp; done) | (simp [World.cell?_alloc_past, World.cell?_alloc_at]; done)) hb
        have c_A3_1 := cell_b (p := ⟨w.heap.size, 3, none⟩) (v := .slice a xs.length cap) (by first | (simp; done) | (simp [World.cell?_alloc_past, World.cell?_alloc_at]; done)) hb
        have c_R0_1 := cell_b (p := ⟨w.heap.size + 1, 0, none⟩) (v := .int .i64 0) (by first | (simp; done) | (simp [World.cell?_alloc_past, World.cell?_alloc_at]; done)) hb
        have f_R0_1 := frz_b (p := ⟨w.heap.size + 1, 0, none⟩) (by first | omega | (simp; done) | (simp; omega)) (show _ = false by first | (simp; done) | (simp [World.frozen?_alloc_past, World.frozen?_alloc_at]; done)) hb
        have c_R1_1 := cell_b (p := ⟨w.heap.size + 1, 1, none⟩) (v := .int .i64 0) (by first | (simp; done) | (simp [World.cell?_alloc_past, World.cell?_alloc_at]; done)) hb
        have f_R1_1 := frz_b (p := ⟨w.heap.size + 1, 1, none⟩) (by first | omega | (simp; done) | (simp; omega)) (show _ = false by first | (simp; done) | (simp [World.frozen?_alloc_past, World.frozen?_alloc_at]; done)) hb
        have c_R2_1 := cell_b (p := ⟨w.heap.size + 1, 2, none⟩) (v := .int .i64 0) (by first | (simp; done) | (simp [World.cell?_alloc_past, World.cell?_alloc_at]; done)) hb
        have f_R2_1 := frz_b (p := ⟨w.heap.size + 1, 2, none⟩) (by first | omega | (simp; done) | (simp; omega)) (show _ = false by first | (simp; done) | (simp [World.frozen?_alloc_past, World.frozen?_alloc_at]; done)) hb
        have c_R3_1 := cell_b (p := ⟨w.heap.size + 1, 3, none⟩) (v := .slice none 0 0) (by first | (simp; done) | (simp [World.cell?_alloc_past, World.cell?_alloc_at]; done)) hb
        have f_R3_1 := frz_b (p := ⟨w.heap.size + 1, 3, none⟩) (by first | omega | (simp; done) | (simp; omega)) (show _ = false by first | (simp; done) | (simp [World.frozen?_alloc_past, World.frozen?_alloc_at]; done)) hb
        have r_d_1 := Lib.hid (rdb_b (rdb_b (rdb_b (r_d_0.out) (below_alloc _ _)) (below_alloc _ _)) hb)
        have T_1 := Lib.hid (below_trans (below_trans (below_trans (T_0.out) (below_alloc _ _)) (below_alloc _ _)) hb)
        have z_1 : w.heap.size + 2 ≤ w1.heap.size := (by have := hb.size; (try simp at this); omega)
        have ac_A0_1 := fun o => cell_b (c_A0_1) (below_alloc _ o)
        have bc_A0_1 := fun o o1 => cell_b (ac_A0_1 o) (below_alloc _ o1)
        have ac_A1_1 := fun o => cell_b (c_A1_1) (below_alloc _ o)
        have bc_A1_1 := fun o o1 => cell_b (ac_A1_1 o) (below_alloc _ o1)
        have ac_A2_1 := fun o => cell_b (c_A2_1) (below_alloc _ o)
        have bc_A2_1 := fun o o1 => cell_b (ac_A2_1 o) (below_alloc _ o1)
        have ac_A3_1 := fun o => cell_b (c_A3_1) (below_alloc _ o)
        have bc_A3_1 := fun o o1 => cell_b (ac_A3_1 o) (below_alloc _ o1)
        have ac_R0_1 := fun o => cell_b (c_R0_1) (below_alloc _ o)
        have bc_R0_1 := fun o o1 => cell_b (ac_R0_1 o) (below_alloc _ o1)
        have ac_R1_1 := fun o => cell_b (c_R1_1) (below_alloc _ o)
        have bc_R1_1 := fun o o1 => cell_b (ac_R1_1 o) (below_alloc _ o1)
        have ac_R2_1 := fun o => cell_b (c_R2_1) (below_alloc _ o)
        have bc_R2_1 := fun o o1 => cell_b (ac_R2_1 o) (below_alloc _ o1)
        have ac_R3_1 := fun o => cell_b (c_R3_1) (below_alloc _ o)
        have bc_R3_1 := fun o o1 => cell_b (ac_R3_1 o) (below_alloc _ o1)
        have af_R0_1 := fun o => frz_b (cell_lt (c_R0_1)) (f_R0_1) (below_alloc _ o)
        have bf_R0_1 := fun o o1 => frz_b (cell_lt (ac_R0_1 o)) (af_R0_1 o) (below_alloc _ o1)
        have af_R1_1 := fun o => frz_b (cell_lt (c_R1_1)) (f_R1_1) (below_alloc _ o)
        have bf_R1_1 := fun o o1 => frz_b (cell_lt (ac_R1_1 o)) (af_R1_1 o) (below_alloc _ o1)
        have af_R2_1 := fun o => frz_b (cell_lt (c_R2_1)) (f_R2_1) (below_alloc _ o)
        have bf_R2_1 := fun o o1 => frz_b (cell_lt (ac_R2_1 o)) (af_R2_1 o) (below_alloc _ o1)
        have af_R3_1 := fun o => frz_b (cell_lt (c_R3_1)) (f_R3_1) (below_alloc _ o)
        have bf_R3_1 := fun o o1 => frz_b (cell_lt (ac_R3_1 o)) (af_R3_1 o) (below_alloc _ o1)
        clear hb r_d_0 T_0
        go_wp2_with fail
        (with_reducible refine (same_b (S_l1Thread _ t)).mono ?_)
        rintro e w2 ⟨rfl, hb⟩
        have c_A0_2 := cell_b (c_A0_1) hb
        have c_A1_2 := cell_b (c_A1_1) hb
        have c_A2_2 := cell_b (c_A2_1) hb
        have c_A3_2 := cell_b (c_A3_1) hb
        have c_R0_2 := cell_b (c_R0_1) hb
        have c_R1_2 := cell_b (c_R1_1) hb
        have c_R2_2 := cell_b (c_R2_1) hb
        have c_R3_2 := cell_b (c_R3_1) hb
        have f_R0_2 := frz_b (cell_lt (c_R0_1)) (f_R0_1) hb
        have f_R1_2 := frz_b (cell_lt (c_R1_1)) (f_R1_1) hb
        have f_R2_2 := frz_b (cell_lt (c_R2_1)) (f_R2_1) hb
        have f_R3_2 := frz_b (cell_lt (c_R3_1)) (f_R3_1) hb
        have r_d_2 := Lib.hid (rdb_b (r_d_1.out) hb)
        have T_2 := Lib.hid (below_trans (T_1.out) hb)
        have z_2 : w1.heap.size ≤ w2.heap.size := (by have := hb.size; (try simp at this); omega)
        have ac_A0_2 := fun o => cell_b (c_A0_2) (below_alloc _ o)
        have bc_A0_2 := fun o o1 => cell_b (ac_A0_2 o) (below_alloc _ o1)
        have ac_A1_2 := fun o => cell_b (c_A1_2) (below_alloc _ o)
        have bc_A1_2 := fun o o1 => cell_b (ac_A1_2 o) (below_alloc _ o1)
        have ac_A2_2 := fun o => cell_b (c_A2_2) (below_alloc _ o)
        have bc_A2_2 := fun o o1 => cell_b (ac_A2_2 o) (below_alloc _ o1)
        have ac_A3_2 := fun o => cell_b (c_A3_2) (below_alloc _ o)
        have bc_A3_2 := fun o o1 => cell_b (ac_A3_2 o) (below_alloc _ o1)
        have ac_R0_2 := fun o => cell_b (c_R0_2) (below_alloc _ o)
        have bc_R0_2 := fun o o1 => cell_b (ac_R0_2 o) (below_alloc _ o1)
        have ac_R1_2 := fun o => cell_b (c_R1_2) (below_alloc _ o)
        have bc_R1_2 := fun o o1 => cell_b (ac_R1_2 o) (below_alloc _ o1)
        have ac_R2_2 := fun o => cell_b (c_R2_2) (below_alloc _ o)
        have bc_R2_2 := fun o o1 => cell_b (ac_R2_2 o) (below_alloc _ o1)
        have ac_R3_2 := fun o => cell_b (c_R3_2) (below_alloc _ o)
        have bc_R3_2 := fun o o1 => cell_b (ac_R3_2 o) (below_alloc _ o1)
        have af_R0_2 := fun o => frz_b (cell_lt (c_R0_2)) (f_R0_2) (below_alloc _ o)
        have bf_R0_2 := fun o o1 => frz_b (cell_lt (ac_R0_2 o)) (af_R0_2 o) (below_alloc _ o1)
        have af_R1_2 := fun o => frz_b (cell_lt (c_R1_2)) (f_R1_2) (below_alloc _ o)
        have bf_R1_2 := fun o o1 => frz_b (cell_lt (ac_R1_2 o)) (af_R1_2 o) (below_alloc _ o1)
        have af_R2_2 := fun o => frz_b (cell_lt (c_R2_2)) (f_R2_2) (below_alloc _ o)
        have bf_R2_2 := fun o o1 => frz_b (cell_lt (ac_R2_2 o)) (af_R2_2 o) (below_alloc _ o1)
        have af_R3_2 := fun o => frz_b (cell_lt (c_R3_2)) (f_R3_2) (below_alloc _ o)
        have bf_R3_2 := fun o o1 => frz_b (cell_lt (ac_R3_2 o)) (af_R3_2 o) (below_alloc _ o1)
        clear hb c_A0_1 c_A1_1 c_A2_1 c_A3_1 c_R0_1 c_R1_1 c_R2_1 c_R3_1 f_R0_1 f_R1_1 f_R2_1 f_R3_1 r_d_1 T_1 ac_A0_1 bc_A0_1 ac_A1_1 bc_A1_1 ac_A2_1 bc_A2_1 ac_A3_1 bc_A3_1 ac_R0_1 bc_R0_1 ac_R1_1 bc_R1_1 ac_R2_1 bc_R2_1 ac_R3_1 bc_R3_1 af_R0_1 bf_R0_1 af_R1_1 bf_R1_1 af_R2_1 bf_R2_1 af_R3_1 bf_R3_1
        go_wp2_with fail
        (with_reducible refine (S_l2Once _ 2 o k _ xs (r_d_2.out) (by omega)).mono ?_)
        rintro e w3 ⟨a1, cap1, rfl, hd, hb⟩
        have c_A0_3 := cell_b (c_A0_2) hb
        have c_A1_3 := cell_b (c_A1_2) hb
        have c_A2_3 := cell_b (c_A2_2) hb
        have c_A3_3 := cell_b (c_A3_2) hb
        have c_R0_3 := cell_b (c_R0_2) hb
        have c_R1_3 := cell_b (c_R1_2) hb
        have c_R2_3 := cell_b (c_R2_2) hb
        have c_R3_3 := cell_b (c_R3_2) hb
        have f_R0_3 := frz_b (cell_lt (c_R0_2)) (f_R0_2) hb
        have f_R1_3 := frz_b (cell_lt (c_R1_2)) (f_R1_2) hb
        have f_R2_3 := frz_b (cell_lt (c_R2_2)) (f_R2_2) hb
        have f_R3_3 := frz_b (cell_lt (c_R3_2)) (f_R3_2) hb
        have r_d_3 := Lib.hid (rdb_b (r_d_2.out) hb)
        have T_3 := Lib.hid (below_trans (T_2.out) hb)
        have z_3 : w2.heap.size ≤ w3.heap.size := (by have := hb.size; (try simp at this); omega)
        have o_e_3 := Lib.hid (own_base hd (show w2.heap.size ≤ _ by first | omega | (simp; done) | (simp; omega)))
        have lo_e := Lib.hid (own_lo o_e_3.out)
        have hi_e := Lib.hid (own_hi o_e_3.out)
        have ac_A0_3 := fun o => cell_b (c_A0_3) (below_alloc _ o)
        have bc_A0_3 := fun o o1 => cell_b (ac_A0_3 o) (below_alloc _ o1)
        have ac_A1_3 := fun o => cell_b (c_A1_3) (below_alloc _ o)
        have bc_A1_3 := fun o o1 => cell_b (ac_A1_3 o) (below_alloc _ o1)
        have ac_A2_3 := fun o => cell_b (c_A2_3) (below_alloc _ o)
        have bc_A2_3 := fun o o1 => cell_b (ac_A2_3 o) (below_alloc _ o1)
        have ac_A3_3 := fun o => cell_b (c_A3_3) (below_alloc _ o)
        have bc_A3_3 := fun o o1 => cell_b (ac_A3_3 o) (below_alloc _ o1)
        have ac_R0_3 := fun o => cell_b (c_R0_3) (below_alloc _ o)
        have bc_R0_3 := fun o o1 => cell_b (ac_R0_3 o) (below_alloc _ o1)
        have ac_R1_3 := fun o => cell_b (c_R1_3) (below_alloc _ o)
        have bc_R1_3 := fun o o1 => cell_b (ac_R1_3 o) (below_alloc _ o1)
        have ac_R2_3 := fun o => cell_b (c_R2_3) (below_alloc _ o)
        have bc_R2_3 := fun o o1 => cell_b (ac_R2_3 o) (below_alloc _ o1)
        have ac_R3_3 := fun o => cell_b (c_R3_3) (below_alloc _ o)
        have bc_R3_3 := fun o o1 => cell_b (ac_R3_3 o) (below_alloc _ o1)
        have af_R0_3 := fun o => frz_b (cell_lt (c_R0_3)) (f_R0_3) (below_alloc _ o)
        have bf_R0_3 := fun o o1 => frz_b (cell_lt (ac_R0_3 o)) (af_R0_3 o) (below_alloc _ o1)
        have af_R1_3 := fun o => frz_b (cell_lt (c_R1_3)) (f_R1_3) (below_alloc _ o)
        have bf_R1_3 := fun o o1 => frz_b (cell_lt (ac_R1_3 o)) (af_R1_3 o) (below_alloc _ o1)
        have af_R2_3 := fun o => frz_b (cell_lt (c_R2_3)) (f_R2_3) (below_alloc _ o)
        have bf_R2_3 := fun o o1 => frz_b (cell_lt (ac_R2_3 o)) (af_R2_3 o) (below_alloc _ o1)
        have af_R3_3 := fun o => frz_b (cell_lt (c_R3_3)) (f_R3_3) (below_alloc _ o)
        have bf_R3_3 := fun o o1 => frz_b (cell_lt (ac_R3_3 o)) (af_R3_3 o) (below_alloc _ o1)
        clear hb c_A0_2 c_A1_2 c_A2_2 c_A3_2 c_R0_2 c_R1_2 c_R2_2 c_R3_2 f_R0_2 f_R1_2 f_R2_2 f_R3_2 r_d_2 T_2 ac_A0_2 bc_A0_2 ac_A1_2 bc_A1_2 ac_A2_2 bc_A2_2 ac_A3_2 bc_A3_2 ac_R0_2 bc_R0_2 ac_R1_2 bc_R1_2 ac_R2_2 bc_R2_2 ac_R3_2 bc_R3_2 af_R0_2 bf_R0_2 af_R1_2 bf_R1_2 af_R2_2 bf_R2_2 af_R3_2 bf_R3_2 hd
        go_wp2_with fail
        refine bodyPost_ret (v := .tuple #[.agg #[.int .i64 2, .int .i64 o, .int .i64 k, .slice a1 xs.length cap1], .int .i64 2, .bool true]) (by simp [results, Try.results54, go_sem, ac_R0_3, ac_R1_3, ac_R2_3, ac_R3_3]) rfl ⟨2, o, k, xs, a1, cap1, 2, true, rfl, by omega, rdb_mono (ow_rdb (own_set (p := ⟨w.heap.size + 1, 3, none⟩) (own_set (p := ⟨w.heap.size + 1, 2, none⟩) (own_set (p := ⟨w.heap.size + 1, 1, none⟩) (own_set (p := ⟨w.heap.size + 1, 0, none⟩) (own_below (o_e_3.out) (below_alloc _ _)) (fun g h => by have h1 := lo_e.out g h; have h2 := hi_e.out g h; show g ≠ w.heap.size + 1; omega) _) (fun g h => by have h1 := lo_e.out g h; have h2 := hi_e.out g h; show g ≠ w.heap.size + 1; omega) _) (fun g h => by have h1 := lo_e.out g h; have h2 := hi_e.out g h; show g ≠ w.heap.size + 1; omega) _) (fun g h => by have h1 := lo_e.out g h; have h2 := hi_e.out g h; show g ≠ w.heap.size + 1; omega) _)) (by omega), (((((below_trans (T_3.out) (below_alloc _ _)).setCell (p := ⟨w.heap.size + 1, 0, none⟩) (by show w.heap.size ≤ w.heap.size + 1; omega) _).setCell (p := ⟨w.heap.size + 1, 1, none⟩) (by show w.heap.size ≤ w.heap.size + 1; omega) _).setCell (p := ⟨w.heap.size + 1, 2, none⟩) (by show w.heap.size ≤ w.heap.size + 1; omega) _).setCell (p := ⟨w.heap.size + 1, 3, none⟩) (by show w.heap.size ≤ w.heap.size + 1; omega) _)⟩
      have n0 : (s == 0) = false := by simpa using h0
      have n2 : (s == 2) = false := by simpa using h2
      by_cases he : t = o
      · skip
        have he0 : (t == o) = true := by simpa using he
        have HE := Lib.hid he
        clear he
        go_enter Try.func54, Try.ntmps54
        have T_0 : Hid (Below w.heap.size w w) := Lib.hid (Below.refl _ _)
        go_wp2_with fail
        (with_reducible refine (S_OnceValid_q _ s o k _ xs true (rdb_rd (rdb_b (rdb_b (r_d_0.out) (below_alloc _ _)) (below_alloc _ _))) (by omega) HV.out).mono ?_)
        rintro e w1 ⟨rfl, hb⟩
        have c_A0_1 := cell_b (p := ⟨w.heap.size, 0, none⟩) (v := .int .i64 s) (by first | (simp; done) | (simp [World.cell?_alloc_past, World.cell?_alloc_at]; done)) hb
        have c_A1_1 := cell_b (p := ⟨w.heap.size, 1, none⟩) (v := .int .i64 o) (by first | (simp; done) | (simp [World.cell?_alloc_past, World.cell?_alloc_at]; done)) hb
        have c_A2_1 := cell_b (p := ⟨w.heap.size, 2, none⟩) (v := .int .i64 k) (by first | (simp; done) | (simp [World.cell?_alloc_past, World.cell?_alloc_at]; done)) hb
        have c_A3_1 := cell_b (p := ⟨w.heap.size, 3, none⟩) (v := .slice a xs.length cap) (by first | (simp; done) | (simp [World.cell?_alloc_past, World.cell?_alloc_at]; done)) hb
        have c_R0_1 := cell_b (p := ⟨w.heap.size + 1, 0, none⟩) (v := .int .i64 0) (by first | (simp; done) | (simp [World.cell?_alloc_past, World.cell?_alloc_at]; done)) hb
        have f_R0_1 := frz_b (p := ⟨w.heap.size + 1, 0, none⟩) (by first | omega | (simp; done) | (simp; omega)) (show _ = false by first | (simp; done) | (simp [World.frozen?_alloc_past, World.frozen?_alloc_at]; done)) hb
        have c_R1_1 := cell_b (p := ⟨w.heap.size + 1, 1, none⟩) (v := .int .i64 0) (by first | (simp; done) | (simp [World.cell?_alloc_past, World.cell?_alloc_at]; done)) hb
        have f_R1_1 := frz_b (p := ⟨w.heap.size + 1, 1, none⟩) (by first | omega | (simp; done) | (simp; omega)) (show _ = false by first | (simp; done) | (simp [World.frozen?_alloc_past, World.frozen?_alloc_at]; done)) hb
        have c_R2_1 := cell_b (p := ⟨w.heap.size + 1, 2, none⟩) (v := .int .i64 0) (by first | (simp; done) | (simp [World.cell?_alloc_past, World.cell?_alloc_at]; done)) hb
        have f_R2_1 := frz_b (p := ⟨w.heap.size + 1, 2, none⟩) (by first | omega | (simp; done) | (simp; omega)) (show _ = false by first | (simp; done) | (simp [World.frozen?_alloc_past, World.frozen?_alloc_at]; done)) hb
        have c_R3_1 := cell_b (p := ⟨w.heap.size + 1, 3, none⟩) (v := .slice none 0 0) (by first | (simp; done) | (simp [World.cell?_alloc_past, World.cell?_alloc_at]; done)) hb
        have f_R3_1 := frz_b (p := ⟨w.heap.size + 1, 3, none⟩) (by first | omega | (simp; done) | (simp; omega)) (show _ = false by first | (simp; done) | (simp [World.frozen?_alloc_past, World.frozen?_alloc_at]; done)) hb
        have r_d_1 := Lib.hid (rdb_b (rdb_b (rdb_b (r_d_0.out) (below_alloc _ _)) (below_alloc _ _)) hb)
        have T_1 := Lib.hid (below_trans (below_trans (below_trans (T_0.out) (below_alloc _ _)) (below_alloc _ _)) hb)
        have z_1 : w.heap.size + 2 ≤ w1.heap.size := (by have := hb.size; (try simp at this); omega)
        have ac_A0_1 := fun o => cell_b (c_A0_1) (below_alloc _ o)
        have bc_A0_1 := fun o o1 => cell_b (ac_A0_1 o) (below_alloc _ o1)
        have ac_A1_1 := fun o => cell_b (c_A1_1) (below_alloc _ o)
        have bc_A1_1 := fun o o1 => cell_b (ac_A1_1 o) (below_alloc _ o1)
        have ac_A2_1 := fun o => cell_b (c_A2_1) (below_alloc _ o)
        have bc_A2_1 := fun o o1 => cell_b (ac_A2_1 o) (below_alloc _ o1)
        have ac_A3_1 := fun o => cell_b (c_A3_1) (below_alloc _ o)
        have bc_A3_1 := fun o o1 => cell_b (ac_A3_1 o) (below_alloc _ o1)
        have ac_R0_1 := fun o => cell_b (c_R0_1) (below_alloc _ o)
        have bc_R0_1 := fun o o1 => cell_b (ac_R0_1 o) (below_alloc _ o1)
        have ac_R1_1 := fun o => cell_b (c_R1_1) (below_alloc _ o)
        have bc_R1_1 := fun o o1 => cell_b (ac_R1_1 o) (below_alloc _ o1)
        have ac_R2_1 := fun o => cell_b (c_R2_1) (below_alloc _ o)
        have bc_R2_1 := fun o o1 => cell_b (ac_R2_1 o) (below_alloc _ o1)
        have ac_R3_1 := fun o => cell_b (c_R3_1) (below_alloc _ o)
        have bc_R3_1 := fun o o1 => cell_b (ac_R3_1 o) (below_alloc _ o1)
        have af_R0_1 := fun o => frz_b (cell_lt (c_R0_1)) (f_R0_1) (below_alloc _ o)
        have bf_R0_1 := fun o o1 => frz_b (cell_lt (ac_R0_1 o)) (af_R0_1 o) (below_alloc _ o1)
        have af_R1_1 := fun o => frz_b (cell_lt (c_R1_1)) (f_R1_1) (below_alloc _ o)
        have bf_R1_1 := fun o o1 => frz_b (cell_lt (ac_R1_1 o)) (af_R1_1 o) (below_alloc _ o1)
        have af_R2_1 := fun o => frz_b (cell_lt (c_R2_1)) (f_R2_1) (below_alloc _ o)
        have bf_R2_1 := fun o o1 => frz_b (cell_lt (ac_R2_1 o)) (af_R2_1 o) (below_alloc _ o1)
        have af_R3_1 := fun o => frz_b (cell_lt (c_R3_1)) (f_R3_1) (below_alloc _ o)
        have bf_R3_1 := fun o o1 => frz_b (cell_lt (ac_R3_1 o)) (af_R3_1 o) (below_alloc _ o1)
        clear hb r_d_0 T_0
        go_wp2_with fail
        (with_reducible refine (same_b (S_l1Thread _ t)).mono ?_)
        rintro e w2 ⟨rfl, hb⟩
        have c_A0_2 := cell_b (c_A0_1) hb
        have c_A1_2 := cell_b (c_A1_1) hb
        have c_A2_2 := cell_b (c_A2_1) hb
        have c_A3_2 := cell_b (c_A3_1) hb
        have c_R0_2 := cell_b (c_R0_1) hb
        have c_R1_2 := cell_b (c_R1_1) hb
        have c_R2_2 := cell_b (c_R2_1) hb
        have c_R3_2 := cell_b (c_R3_1) hb
        have f_R0_2 := frz_b (cell_lt (c_R0_1)) (f_R0_1) hb
        have f_R1_2 := frz_b (cell_lt (c_R1_1)) (f_R1_1) hb
        have f_R2_2 := frz_b (cell_lt (c_R2_1)) (f_R2_1) hb
        have f_R3_2 := frz_b (cell_lt (c_R3_1)) (f_R3_1) hb
        have r_d_2 := Lib.hid (rdb_b (r_d_1.out) hb)
        have T_2 := Lib.hid (below_trans (T_1.out) hb)
        have z_2 : w1.heap.size ≤ w2.heap.size := (by have := hb.size; (try simp at this); omega)
        have ac_A0_2 := fun o => cell_b (c_A0_2) (below_alloc _ o)
        have bc_A0_2 := fun o o1 => cell_b (ac_A0_2 o) (below_alloc _ o1)
        have ac_A1_2 := fun o => cell_b (c_A1_2) (below_alloc _ o)
        have bc_A1_2 := fun o o1 => cell_b (ac_A1_2 o) (below_alloc _ o1)
        have ac_A2_2 := fun o => cell_b (c_A2_2) (below_alloc _ o)
        have bc_A2_2 := fun o o1 => cell_b (ac_A2_2 o) (below_alloc _ o1)
        have ac_A3_2 := fun o => cell_b (c_A3_2) (below_alloc _ o)
        have bc_A3_2 := fun o o1 => cell_b (ac_A3_2 o) (below_alloc _ o1)
        have ac_R0_2 := fun o => cell_b (c_R0_2) (below_alloc _ o)
        have bc_R0_2 := fun o o1 => cell_b (ac_R0_2 o) (below_alloc _ o1)
        have ac_R1_2 := fun o => cell_b (c_R1_2) (below_alloc _ o)
        have bc_R1_2 := fun o o1 => cell_b (ac_R1_2 o) (below_alloc _ o1)
        have ac_R2_2 := fun o => cell_b (c_R2_2) (below_alloc _ o)
        have bc_R2_2 := fun o o1 => cell_b (ac_R2_2 o) (below_alloc _ o1)
        have ac_R3_2 := fun o => cell_b (c_R3_2) (below_alloc _ o)
        have bc_R3_2 := fun o o1 => cell_b (ac_R3_2 o) (below_alloc _ o1)
        have af_R0_2 := fun o => frz_b (cell_lt (c_R0_2)) (f_R0_2) (below_alloc _ o)
        have bf_R0_2 := fun o o1 => frz_b (cell_lt (ac_R0_2 o)) (af_R0_2 o) (below_alloc _ o1)
        have af_R1_2 := fun o => frz_b (cell_lt (c_R1_2)) (f_R1_2) (below_alloc _ o)
        have bf_R1_2 := fun o o1 => frz_b (cell_lt (ac_R1_2 o)) (af_R1_2 o) (below_alloc _ o1)
        have af_R2_2 := fun o => frz_b (cell_lt (c_R2_2)) (f_R2_2) (below_alloc _ o)
        have bf_R2_2 := fun o o1 => frz_b (cell_lt (ac_R2_2 o)) (af_R2_2 o) (below_alloc _ o1)
        have af_R3_2 := fun o => frz_b (cell_lt (c_R3_2)) (f_R3_2) (below_alloc _ o)
        have bf_R3_2 := fun o o1 => frz_b (cell_lt (ac_R3_2 o)) (af_R3_2 o) (below_alloc _ o1)
        clear hb c_A0_1 c_A1_1 c_A2_1 c_A3_1 c_R0_1 c_R1_1 c_R2_1 c_R3_1 f_R0_1 f_R1_1 f_R2_1 f_R3_1 r_d_1 T_1 ac_A0_1 bc_A0_1 ac_A1_1 bc_A1_1 ac_A2_1 bc_A2_1 ac_A3_1 bc_A3_1 ac_R0_1 bc_R0_1 ac_R1_1 bc_R1_1 ac_R2_1 bc_R2_1 ac_R3_1 bc_R3_1 af_R0_1 bf_R0_1 af_R1_1 bf_R1_1 af_R2_1 bf_R2_1 af_R3_1 bf_R3_1
        go_wp2_with fail
        (with_reducible refine (S_l2Once _ s o k _ xs (r_d_2.out) (by omega)).mono ?_)
        rintro e w3 ⟨a1, cap1, rfl, hd, hb⟩
        have c_A0_3 := cell_b (c_A0_2) hb
        have c_A1_3 := cell_b (c_A1_2) hb
        have c_A2_3 := cell_b (c_A2_2) hb
        have c_A3_3 := cell_b (c_A3_2) hb
        have c_R0_3 := cell_b (c_R0_2) hb
        have c_R1_3 := cell_b (c_R1_2) hb
        have c_R2_3 := cell_b (c_R2_2) hb
        have c_R3_3 := cell_b (c_R3_2) hb
        have f_R0_3 := frz_b (cell_lt (c_R0_2)) (f_R0_2) hb
        have f_R1_3 := frz_b (cell_lt (c_R1_2)) (f_R1_2) hb
        have f_R2_3 := frz_b (cell_lt (c_R2_2)) (f_R2_2) hb
        have f_R3_3 := frz_b (cell_lt (c_R3_2)) (f_R3_2) hb
        have r_d_3 := Lib.hid (rdb_b (r_d_2.out) hb)
        have T_3 := Lib.hid (below_trans (T_2.out) hb)
        have z_3 : w2.heap.size ≤ w3.heap.size := (by have := hb.size; (try simp at this); omega)
        have o_e_3 := Lib.hid (own_base hd (show w2.heap.size ≤ _ by first | omega | (simp; done) | (simp; omega)))
        have lo_e := Lib.hid (own_lo o_e_3.out)
        have hi_e := Lib.hid (own_hi o_e_3.out)
        have ac_A0_3 := fun o => cell_b (c_A0_3) (below_alloc _ o)
        have bc_A0_3 := fun o o1 => cell_b (ac_A0_3 o) (below_alloc _ o1)
        have ac_A1_3 := fun o => cell_b (c_A1_3) (below_alloc _ o)
        have bc_A1_3 := fun o o1 => cell_b (ac_A1_3 o) (below_alloc _ o1)
        have ac_A2_3 := fun o => cell_b (c_A2_3) (below_alloc _ o)
        have bc_A2_3 := fun o o1 => cell_b (ac_A2_3 o) (below_alloc _ o1)
        have ac_A3_3 := fun o => cell_b (c_A3_3) (below_alloc _ o)
        have bc_A3_3 := fun o o1 => cell_b (ac_A3_3 o) (below_alloc _ o1)
        have ac_R0_3 := fun o => cell_b (c_R0_3) (below_alloc _ o)
        have bc_R0_3 := fun o o1 => cell_b (ac_R0_3 o) (below_alloc _ o1)
        have ac_R1_3 := fun o => cell_b (c_R1_3) (below_alloc _ o)
        have bc_R1_3 := fun o o1 => cell_b (ac_R1_3 o) (below_alloc _ o1)
        have ac_R2_3 := fun o => cell_b (c_R2_3) (below_alloc _ o)
        have bc_R2_3 := fun o o1 => cell_b (ac_R2_3 o) (below_alloc _ o1)
        have ac_R3_3 := fun o => cell_b (c_R3_3) (below_alloc _ o)
        have bc_R3_3 := fun o o1 => cell_b (ac_R3_3 o) (below_alloc _ o1)
        have af_R0_3 := fun o => frz_b (cell_lt (c_R0_3)) (f_R0_3) (below_alloc _ o)
        have bf_R0_3 := fun o o1 => frz_b (cell_lt (ac_R0_3 o)) (af_R0_3 o) (below_alloc _ o1)
        have af_R1_3 := fun o => frz_b (cell_lt (c_R1_3)) (f_R1_3) (below_alloc _ o)
        have bf_R1_3 := fun o o1 => frz_b (cell_lt (ac_R1_3 o)) (af_R1_3 o) (below_alloc _ o1)
        have af_R2_3 := fun o => frz_b (cell_lt (c_R2_3)) (f_R2_3) (below_alloc _ o)
        have bf_R2_3 := fun o o1 => frz_b (cell_lt (ac_R2_3 o)) (af_R2_3 o) (below_alloc _ o1)
        have af_R3_3 := fun o => frz_b (cell_lt (c_R3_3)) (f_R3_3) (below_alloc _ o)
        have bf_R3_3 := fun o o1 => frz_b (cell_lt (ac_R3_3 o)) (af_R3_3 o) (below_alloc _ o1)
        clear hb c_A0_2 c_A1_2 c_A2_2 c_A3_2 c_R0_2 c_R1_2 c_R2_2 c_R3_2 f_R0_2 f_R1_2 f_R2_2 f_R3_2 r_d_2 T_2 ac_A0_2 bc_A0_2 ac_A1_2 bc_A1_2 ac_A2_2 bc_A2_2 ac_A3_2 bc_A3_2 ac_R0_2 bc_R0_2 ac_R1_2 bc_R1_2 ac_R2_2 bc_R2_2 ac_R3_2 bc_R3_2 af_R0_2 bf_R0_2 af_R1_2 bf_R1_2 af_R2_2 bf_R2_2 af_R3_2 bf_R3_2 hd
        go_wp2_with fail
        refine bodyPost_ret (v := .tuple #[.agg #[.int .i64 0, .int .i64 0, .int .i64 0, .slice none 0 0], .int .i64 0, .bool false]) (by simp [results, Try.results54, go_sem, ac_R0_3, ac_R1_3, ac_R2_3, ac_R3_3]) rfl ⟨0, 0, 0, [], none, 0, 0, false, rfl, by simp, rdb_nil _ _, (((((below_trans (T_3.out) (below_alloc _ _)).setCell (p := ⟨w.heap.size + 1, 0, none⟩) (by show w.heap.size ≤ w.heap.size + 1; omega) _).setCell (p := ⟨w.heap.size + 1, 1, none⟩) (by show w.heap.size ≤ w.heap.size + 1; omega) _).setCell (p := ⟨w.heap.size + 1, 2, none⟩) (by show w.heap.size ≤ w.heap.size + 1; omega) _).setCell (p := ⟨w.heap.size + 1, 3, none⟩) (by show w.heap.size ≤ w.heap.size + 1; omega) _)⟩
      have ne0 : (t == o) = false := by simpa using he
      clear he
      by_cases hh : 0 ≤ atF xs t
      · skip
        go_enter Try.func54, Try.ntmps54
        have T_0 : Hid (Below w.heap.size w w) := Lib.hid (Below.refl _ _)
        go_wp2_with fail
        (with_reducible refine (S_OnceValid_q _ s o k _ xs true (rdb_rd (rdb_b (rdb_b (r_d_0.out) (below_alloc _ _)) (below_alloc _ _))) (by omega) HV.out).mono ?_)
        rintro e w1 ⟨rfl, hb⟩
        have c_A0_1 := cell_b (p := ⟨w.heap.size, 0, none⟩) (v := .int .i64 s) (by first | (simp; done) | (simp [World.cell?_alloc_past, World.cell?_alloc_at]; done)) hb
        have c_A1_1 := cell_b (p := ⟨w.heap.size, 1, none⟩) (v := .int .i64 o) (by first | (simp; done) | (simp [World.cell?_alloc_past, World.cell?_alloc_at]; done)) hb
        have c_A2_1 := cell_b (p := ⟨w.heap.size, 2, none⟩) (v := .int .i64 k) (by first | (simp; done) | (simp [World.cell?_alloc_past, World.cell?_alloc_at]; done)) hb
        have c_A3_1 := cell_b (p := ⟨w.heap.size, 3, none⟩) (v := .slice a xs.length cap) (by first | (simp; done) | (simp [World.cell?_alloc_past, World.cell?_alloc_at]; done)) hb
        have c_R0_1 := cell_b (p := ⟨w.heap.size + 1, 0, none⟩) (v := .int .i64 0) (by first | (simp; done) | (simp [World.cell?_alloc_past, World.cell?_alloc_at]; done)) hb
        have f_R0_1 := frz_b (p := ⟨w.heap.size + 1, 0, none⟩) (by first | omega | (simp; done) | (simp; omega)) (show _ = false by first | (simp; done) | (simp [World.frozen?_alloc_past, World.frozen?_alloc_at]; done)) hb
        have c_R1_1 := cell_b (p := ⟨w.heap.size + 1, 1, none⟩) (v := .int .i64 0) (by first | (simp; done) | (simp [World.cell?_alloc_past, World.cell?_alloc_at]; done)) hb
        have f_R1_1 := frz_b (p := ⟨w.heap.size + 1, 1, none⟩) (by first | omega | (simp; done) | (simp; omega)) (show _ = false by first | (simp; done) | (simp [World.frozen?_alloc_past, World.frozen?_alloc_at]; done)) hb
        have c_R2_1 := cell_b (p := ⟨w.heap.size + 1, 2, none⟩) (v := .int .i64 0) (by first | (simp; done) | (simp [World.cell?_alloc_past, World.cell?_alloc_at]; done)) hb
        have f_R2_1 := frz_b (p := ⟨w.heap.size + 1, 2, none⟩) (by first | omega | (simp; done) | (simp; omega)) (show _ = false by first | (simp; done) | (simp [World.frozen?_alloc_past, World.frozen?_alloc_at]; done)) hb
        have c_R3_1 := cell_b (p := ⟨w.heap.size + 1, 3, none⟩) (v := .slice none 0 0) (by first | (simp; done) | (simp [World.cell?_alloc_past, World.cell?_alloc_at]; done)) hb
        have f_R3_1 := frz_b (p := ⟨w.heap.size + 1, 3, none⟩) (by first | omega | (simp; done) | (simp; omega)) (show _ = false by first | (simp; done) | (simp [World.frozen?_alloc_past, World.frozen?_alloc_at]; done)) hb
        have r_d_1 := Lib.hid (rdb_b (rdb_b (rdb_b (r_d_0.out) (below_alloc _ _)) (below_alloc _ _)) hb)
        have T_1 := Lib.hid (below_trans (below_trans (below_trans (T_0.out) (below_alloc _ _)) (below_alloc _ _)) hb)
        have z_1 : w.heap.size + 2 ≤ w1.heap.size := (by have := hb.size; (try simp at this); omega)
        have ac_A0_1 := fun o => cell_b (c_A0_1) (below_alloc _ o)
        have bc_A0_1 := fun o o1 => cell_b (ac_A0_1 o) (below_alloc _ o1)
        have ac_A1_1 := fun o => cell_b (c_A1_1) (below_alloc _ o)
        have bc_A1_1 := fun o o1 => cell_b (ac_A1_1 o) (below_alloc _ o1)
        have ac_A2_1 := fun o => cell_b (c_A2_1) (below_alloc _ o)
        have bc_A2_1 := fun o o1 => cell_b (ac_A2_1 o) (below_alloc _ o1)
        have ac_A3_1 := fun o => cell_b (c_A3_1) (below_alloc _ o)
        have bc_A3_1 := fun o o1 => cell_b (ac_A3_1 o) (below_alloc _ o1)
        have ac_R0_1 := fun o => cell_b (c_R0_1) (below_alloc _ o)
        have bc_R0_1 := fun o o1 => cell_b (ac_R0_1 o) (below_alloc _ o1)
        have ac_R1_1 := fun o => cell_b (c_R1_1) (below_alloc _ o)
        have bc_R1_1 := fun o o1 => cell_b (ac_R1_1 o) (below_alloc _ o1)
        have ac_R2_1 := fun o => cell_b (c_R2_1) (below_alloc _ o)
        have bc_R2_1 := fun o o1 => cell_b (ac_R2_1 o) (below_alloc _ o1)
        have ac_R3_1 := fun o => cell_b (c_R3_1) (below_alloc _ o)
        have bc_R3_1 := fun o o1 => cell_b (ac_R3_1 o) (below_alloc _ o1)
        have af_R0_1 := fun o => frz_b (cell_lt (c_R0_1)) (f_R0_1) (below_alloc _ o)
        have bf_R0_1 := fun o o1 => frz_b (cell_lt (ac_R0_1 o)) (af_R0_1 o) (below_alloc _ o1)
        have af_R1_1 := fun o => frz_b (cell_lt (c_R1_1)) (f_R1_1) (below_alloc _ o)
        have bf_R1_1 := fun o o1 => frz_b (cell_lt (ac_R1_1 o)) (af_R1_1 o) (below_alloc _ o1)
        have af_R2_1 := fun o => frz_b (cell_lt (c_R2_1)) (f_R2_1) (below_alloc _ o)
        have bf_R2_1 := fun o o1 => frz_b (cell_lt (ac_R2_1 o)) (af_R2_1 o) (below_alloc _ o1)
        have af_R3_1 := fun o => frz_b (cell_lt (c_R3_1)) (f_R3_1) (below_alloc _ o)
        have bf_R3_1 := fun o o1 => frz_b (cell_lt (ac_R3_1 o)) (af_R3_1 o) (below_alloc _ o1)
        clear hb r_d_0 T_0
        go_wp2_with fail
        (with_reducible refine (same_b (S_l1Thread _ t)).mono ?_)
        rintro e w2 ⟨rfl, hb⟩
        have c_A0_2 := cell_b (c_A0_1) hb
        have c_A1_2 := cell_b (c_A1_1) hb
        have c_A2_2 := cell_b (c_A2_1) hb
        have c_A3_2 := cell_b (c_A3_1) hb
        have c_R0_2 := cell_b (c_R0_1) hb
        have c_R1_2 := cell_b (c_R1_1) hb
        have c_R2_2 := cell_b (c_R2_1) hb
        have c_R3_2 := cell_b (c_R3_1) hb
        have f_R0_2 := frz_b (cell_lt (c_R0_1)) (f_R0_1) hb
        have f_R1_2 := frz_b (cell_lt (c_R1_1)) (f_R1_1) hb
        have f_R2_2 := frz_b (cell_lt (c_R2_1)) (f_R2_1) hb
        have f_R3_2 := frz_b (cell_lt (c_R3_1)) (f_R3_1) hb
        have r_d_2 := Lib.hid (rdb_b (r_d_1.out) hb)
        have T_2 := Lib.hid (below_trans (T_1.out) hb)
        have z_2 : w1.heap.size ≤ w2.heap.size := (by have := hb.size; (try simp at this); omega)
        have ac_A0_2 := fun o => cell_b (c_A0_2) (below_alloc _ o)
        have bc_A0_2 := fun o o1 => cell_b (ac_A0_2 o) (below_alloc _ o1)
        have ac_A1_2 := fun o => cell_b (c_A1_2) (below_alloc _ o)
        have bc_A1_2 := fun o o1 => cell_b (ac_A1_2 o) (below_alloc _ o1)
        have ac_A2_2 := fun o => cell_b (c_A2_2) (below_alloc _ o)
        have bc_A2_2 := fun o o1 => cell_b (ac_A2_2 o) (below_alloc _ o1)
        have ac_A3_2 := fun o => cell_b (c_A3_2) (below_alloc _ o)
        have bc_A3_2 := fun o o1 => cell_b (ac_A3_2 o) (below_alloc _ o1)
        have ac_R0_2 := fun o => cell_b (c_R0_2) (below_alloc _ o)
        have bc_R0_2 := fun o o1 => cell_b (ac_R0_2 o) (below_alloc _ o1)
        have ac_R1_2 := fun o => cell_b (c_R1_2) (below_alloc _ o)
        have bc_R1_2 := fun o o1 => cell_b (ac_R1_2 o) (below_alloc _ o1)
        have ac_R2_2 := fun o => cell_b (c_R2_2) (below_alloc _ o)
        have bc_R2_2 := fun o o1 => cell_b (ac_R2_2 o) (below_alloc _ o1)
        have ac_R3_2 := fun o => cell_b (c_R3_2) (below_alloc _ o)
        have bc_R3_2 := fun o o1 => cell_b (ac_R3_2 o) (below_alloc _ o1)
        have af_R0_2 := fun o => frz_b (cell_lt (c_R0_2)) (f_R0_2) (below_alloc _ o)
        have bf_R0_2 := fun o o1 => frz_b (cell_lt (ac_R0_2 o)) (af_R0_2 o) (below_alloc _ o1)
        have af_R1_2 := fun o => frz_b (cell_lt (c_R1_2)) (f_R1_2) (below_alloc _ o)
        have bf_R1_2 := fun o o1 => frz_b (cell_lt (ac_R1_2 o)) (af_R1_2 o) (below_alloc _ o1)
        have af_R2_2 := fun o => frz_b (cell_lt (c_R2_2)) (f_R2_2) (below_alloc _ o)
        have bf_R2_2 := fun o o1 => frz_b (cell_lt (ac_R2_2 o)) (af_R2_2 o) (below_alloc _ o1)
        have af_R3_2 := fun o => frz_b (cell_lt (c_R3_2)) (f_R3_2) (below_alloc _ o)
        have bf_R3_2 := fun o o1 => frz_b (cell_lt (ac_R3_2 o)) (af_R3_2 o) (below_alloc _ o1)
        clear hb c_A0_1 c_A1_1 c_A2_1 c_A3_1 c_R0_1 c_R1_1 c_R2_1 c_R3_1 f_R0_1 f_R1_1 f_R2_1 f_R3_1 r_d_1 T_1 ac_A0_1 bc_A0_1 ac_A1_1 bc_A1_1 ac_A2_1 bc_A2_1 ac_A3_1 bc_A3_1 ac_R0_1 bc_R0_1 ac_R1_1 bc_R1_1 ac_R2_1 bc_R2_1 ac_R3_1 bc_R3_1 af_R0_1 bf_R0_1 af_R1_1 bf_R1_1 af_R2_1 bf_R2_1 af_R3_1 bf_R3_1
        go_wp2_with fail
        (with_reducible refine (S_l2Once _ s o k _ xs (r_d_2.out) (by omega)).mono ?_)
        rintro e w3 ⟨a1, cap1, rfl, hd, hb⟩
        have c_A0_3 := cell_b (c_A0_2) hb
        have c_A1_3 := cell_b (c_A1_2) hb
        have c_A2_3 := cell_b (c_A2_2) hb
        have c_A3_3 := cell_b (c_A3_2) hb
        have c_R0_3 := cell_b (c_R0_2) hb
        have c_R1_3 := cell_b (c_R1_2) hb
        have c_R2_3 := cell_b (c_R2_2) hb
        have c_R3_3 := cell_b (c_R3_2) hb
        have f_R0_3 := frz_b (cell_lt (c_R0_2)) (f_R0_2) hb
        have f_R1_3 := frz_b (cell_lt (c_R1_2)) (f_R1_2) hb
        have f_R2_3 := frz_b (cell_lt (c_R2_2)) (f_R2_2) hb
        have f_R3_3 := frz_b (cell_lt (c_R3_2)) (f_R3_2) hb
        have r_d_3 := Lib.hid (rdb_b (r_d_2.out) hb)
        have T_3 := Lib.hid (below_trans (T_2.out) hb)
        have z_3 : w2.heap.size ≤ w3.heap.size := (by have := hb.size; (try simp at this); omega)
        have o_e_3 := Lib.hid (own_base hd (show w2.heap.size ≤ _ by first | omega | (simp; done) | (simp; omega)))
        have lo_e := Lib.hid (own_lo o_e_3.out)
        have hi_e := Lib.hid (own_hi o_e_3.out)
        have ac_A0_3 := fun o => cell_b (c_A0_3) (below_alloc _ o)
        have bc_A0_3 := fun o o1 => cell_b (ac_A0_3 o) (below_alloc _ o1)
        have ac_A1_3 := fun o => cell_b (c_A1_3) (below_alloc _ o)
        have bc_A1_3 := fun o o1 => cell_b (ac_A1_3 o) (below_alloc _ o1)
        have ac_A2_3 := fun o => cell_b (c_A2_3) (below_alloc _ o)
        have bc_A2_3 := fun o o1 => cell_b (ac_A2_3 o) (below_alloc _ o1)
        have ac_A3_3 := fun o => cell_b (c_A3_3) (below_alloc _ o)
        have bc_A3_3 := fun o o1 => cell_b (ac_A3_3 o) (below_alloc _ o1)
        have ac_R0_3 := fun o => cell_b (c_R0_3) (below_alloc _ o)
        have bc_R0_3 := fun o o1 => cell_b (ac_R0_3 o) (below_alloc _ o1)
        have ac_R1_3 := fun o => cell_b (c_R1_3) (below_alloc _ o)
        have bc_R1_3 := fun o o1 => cell_b (ac_R1_3 o) (below_alloc _ o1)
        have ac_R2_3 := fun o => cell_b (c_R2_3) (below_alloc _ o)
        have bc_R2_3 := fun o o1 => cell_b (ac_R2_3 o) (below_alloc _ o1)
        have ac_R3_3 := fun o => cell_b (c_R3_3) (below_alloc _ o)
        have bc_R3_3 := fun o o1 => cell_b (ac_R3_3 o) (below_alloc _ o1)
        have af_R0_3 := fun o => frz_b (cell_lt (c_R0_3)) (f_R0_3) (below_alloc _ o)
        have bf_R0_3 := fun o o1 => frz_b (cell_lt (ac_R0_3 o)) (af_R0_3 o) (below_alloc _ o1)
        have af_R1_3 := fun o => frz_b (cell_lt (c_R1_3)) (f_R1_3) (below_alloc _ o)
        have bf_R1_3 := fun o o1 => frz_b (cell_lt (ac_R1_3 o)) (af_R1_3 o) (below_alloc _ o1)
        have af_R2_3 := fun o => frz_b (cell_lt (c_R2_3)) (f_R2_3) (below_alloc _ o)
        have bf_R2_3 := fun o o1 => frz_b (cell_lt (ac_R2_3 o)) (af_R2_3 o) (below_alloc _ o1)
        have af_R3_3 := fun o => frz_b (cell_lt (c_R3_3)) (f_R3_3) (below_alloc _ o)
        have bf_R3_3 := fun o o1 => frz_b (cell_lt (ac_R3_3 o)) (af_R3_3 o) (below_alloc _ o1)
        clear hb c_A0_2 c_A1_2 c_A2_2 c_A3_2 c_R0_2 c_R1_2 c_R2_2 c_R3_2 f_R0_2 f_R1_2 f_R2_2 f_R3_2 r_d_2 T_2 ac_A0_2 bc_A0_2 ac_A1_2 bc_A1_2 ac_A2_2 bc_A2_2 ac_A3_2 bc_A3_2 ac_R0_2 bc_R0_2 ac_R1_2 bc_R1_2 ac_R2_2 bc_R2_2 ac_R3_2 bc_R3_2 af_R0_2 bf_R0_2 af_R1_2 bf_R1_2 af_R2_2 bf_R2_2 af_R3_2 bf_R3_2 hd
        go_wp2_with fail
        (with_reducible refine (same_b (S_l2At _ _ xs t (rdb_rd (rdb_b (r_d_3.out) (below_alloc _ _))) (by omega))).mono ?_)
        rintro e w4 ⟨rfl, hb⟩
        have c_A0_4 := cell_b (cell_b (c_A0_3) (below_alloc _ _)) hb
        have c_A1_4 := cell_b (cell_b (c_A1_3) (below_alloc _ _)) hb
        have c_A2_4 := cell_b (cell_b (c_A2_3) (below_alloc _ _)) hb
        have c_A3_4 := cell_b (cell_b (c_A3_3) (below_alloc _ _)) hb
        have c_R0_4 := cell_b (cell_b (c_R0_3) (below_alloc _ _)) hb
        have c_R1_4 := cell_b (cell_b (c_R1_3) (below_alloc _ _)) hb
        have c_R2_4 := cell_b (cell_b (c_R2_3) (below_alloc _ _)) hb
        have c_R3_4 := cell_b (cell_b (c_R3_3) (below_alloc _ _)) hb
        have f_R0_4 := frz_b (cell_lt (cell_b (c_R0_3) (below_alloc _ _))) (frz_b (cell_lt (c_R0_3)) (f_R0_3) (below_alloc _ _)) hb
        have f_R1_4 := frz_b (cell_lt (cell_b (c_R1_3) (below_alloc _ _))) (frz_b (cell_lt (c_R1_3)) (f_R1_3) (below_alloc _ _)) hb
        have f_R2_4 := frz_b (cell_lt (cell_b (c_R2_3) (below_alloc _ _))) (frz_b (cell_lt (c_R2_3)) (f_R2_3) (below_alloc _ _)) hb
        have f_R3_4 := frz_b (cell_lt (cell_b (c_R3_3) (below_alloc _ _))) (frz_b (cell_lt (c_R3_3)) (f_R3_3) (below_alloc _ _)) hb
        have c_O0_4 := cell_b (p := ⟨w3.heap.size, 0, none⟩) (v := .int .i64 s) (by first | (simp; done) | (simp [World.cell?_alloc_past, World.cell?_alloc_at]; done)) hb
        have f_O0_4 := frz_b (p := ⟨w3.heap.size, 0, none⟩) (by first | omega | (simp; done) | (simp; omega)) (show _ = false by first | (simp; done) | (simp [World.frozen?_alloc_past, World.frozen?_alloc_at]; done)) hb
        have c_O1_4 := cell_b (p := ⟨w3.heap.size, 1, none⟩) (v := .int .i64 o) (by first | (simp; done) | (simp [World.cell?_alloc_past, World.cell?_alloc_at]; done)) hb
        have f_O1_4 := frz_b (p := ⟨w3.heap.size, 1, none⟩) (by first | omega | (simp; done) | (simp; omega)) (show _ = false by first | (simp; done) | (simp [World.frozen?_alloc_past, World.frozen?_alloc_at]; done)) hb
        have c_O2_4 := cell_b (p := ⟨w3.heap.size, 2, none⟩) (v := .int .i64 k) (by first | (simp; done) | (simp [World.cell?_alloc_past, World.cell?_alloc_at]; done)) hb
        have f_O2_4 := frz_b (p := ⟨w3.heap.size, 2, none⟩) (by first | omega | (simp; done) | (simp; omega)) (show _ = false by first | (simp; done) | (simp [World.frozen?_alloc_past, World.frozen?_alloc_at]; done)) hb
        have c_O3_4 := cell_b (p := ⟨w3.heap.size, 3, none⟩) (v := .slice a1 xs.length cap1) (by first | (simp; done) | (simp [World.cell?_alloc_past, World.cell?_alloc_at]; done)) hb
        have f_O3_4 := frz_b (p := ⟨w3.heap.size, 3, none⟩) (by first | omega | (simp; done) | (simp; omega)) (show _ = false by first | (simp; done) | (simp [World.frozen?_alloc_past, World.frozen?_alloc_at]; done)) hb
        have o_e_4 := Lib.hid (own_below (own_below (o_e_3.out) (below_alloc _ _)) hb)
        have r_d_4 := Lib.hid (rdb_b (rdb_b (r_d_3.out) (below_alloc _ _)) hb)
        have T_4 := Lib.hid (below_trans (below_trans (T_3.out) (below_alloc _ _)) hb)
        have z_4 : w3.heap.size + 1 ≤ w4.heap.size := (by have := hb.size; (try simp at this); omega)
        have ac_A0_4 := fun o => cell_b (c_A0_4) (below_alloc _ o)
        have bc_A0_4 := fun o o1 => cell_b (ac_A0_4 o) (below_alloc _ o1)
        have ac_A1_4 := fun o => cell_b (c_A1_4) (below_alloc _ o)
        have bc_A1_4 := fun o o1 => cell_b (ac_A1_4 o) (below_alloc _ o1)
        have ac_A2_4 := fun o => cell_b (c_A2_4) (below_alloc _ o)
        have bc_A2_4 := fun o o1 => cell_b (ac_A2_4 o) (below_alloc _ o1)
        have ac_A3_4 := fun o => cell_b (c_A3_4) (below_alloc _ o)
        have bc_A3_4 := fun o o1 => cell_b (ac_A3_4 o) (below_alloc _ o1)
        have ac_R0_4 := fun o => cell_b (c_R0_4) (below_alloc _ o)
        have bc_R0_4 := fun o o1 => cell_b (ac_R0_4 o) (below_alloc _ o1)
        have ac_R1_4 := fun o => cell_b (c_R1_4) (below_alloc _ o)
        have bc_R1_4 := fun o o1 => cell_b (ac_R1_4 o) (below_alloc _ o1)
        have ac_R2_4 := fun o => cell_b (c_R2_4) (below_alloc _ o)
        have bc_R2_4 := fun o o1 => cell_b (ac_R2_4 o) (below_alloc _ o1)
        have ac_R3_4 := fun o => cell_b (c_R3_4) (below_alloc _ o)
        have bc_R3_4 := fun o o1 => cell_b (ac_R3_4 o) (below_alloc _ o1)
        have ac_O0_4 := fun o => cell_b (c_O0_4) (below_alloc _ o)
        have bc_O0_4 := fun o o1 => cell_b (ac_O0_4 o) (below_alloc _ o1)
        have ac_O1_4 := fun o => cell_b (c_O1_4) (below_alloc _ o)
        have bc_O1_4 := fun o o1 => cell_b (ac_O1_4 o) (below_alloc _ o1)
        have ac_O2_4 := fun o => cell_b (c_O2_4) (below_alloc _ o)
        have bc_O2_4 := fun o o1 => cell_b (ac_O2_4 o) (below_alloc _ o1)
        have ac_O3_4 := fun o => cell_b (c_O3_4) (below_alloc _ o)
        have bc_O3_4 := fun o o1 => cell_b (ac_O3_4 o) (below_alloc _ o1)
        have af_R0_4 := fun o => frz_b (cell_lt (c_R0_4)) (f_R0_4) (below_alloc _ o)
        have bf_R0_4 := fun o o1 => frz_b (cell_lt (ac_R0_4 o)) (af_R0_4 o) (below_alloc _ o1)
        have af_R1_4 := fun o => frz_b (cell_lt (c_R1_4)) (f_R1_4) (below_alloc _ o)
        have bf_R1_4 := fun o o1 => frz_b (cell_lt (ac_R1_4 o)) (af_R1_4 o) (below_alloc _ o1)
        have af_R2_4 := fun o => frz_b (cell_lt (c_R2_4)) (f_R2_4) (below_alloc _ o)
        have bf_R2_4 := fun o o1 => frz_b (cell_lt (ac_R2_4 o)) (af_R2_4 o) (below_alloc _ o1)
        have af_R3_4 := fun o => frz_b (cell_lt (c_R3_4)) (f_R3_4) (below_alloc _ o)
        have bf_R3_4 := fun o o1 => frz_b (cell_lt (ac_R3_4 o)) (af_R3_4 o) (below_alloc _ o1)
        have af_O0_4 := fun o => frz_b (cell_lt (c_O0_4)) (f_O0_4) (below_alloc _ o)
        have bf_O0_4 := fun o o1 => frz_b (cell_lt (ac_O0_4 o)) (af_O0_4 o) (below_alloc _ o1)
        have af_O1_4 := fun o => frz_b (cell_lt (c_O1_4)) (f_O1_4) (below_alloc _ o)
        have bf_O1_4 := fun o o1 => frz_b (cell_lt (ac_O1_4 o)) (af_O1_4 o) (below_alloc _ o1)
        have af_O2_4 := fun o => frz_b (cell_lt (c_O2_4)) (f_O2_4) (below_alloc _ o)
        have bf_O2_4 := fun o o1 => frz_b (cell_lt (ac_O2_4 o)) (af_O2_4 o) (below_alloc _ o1)
        have af_O3_4 := fun o => frz_b (cell_lt (c_O3_4)) (f_O3_4) (below_alloc _ o)
        have bf_O3_4 := fun o o1 => frz_b (cell_lt (ac_O3_4 o)) (af_O3_4 o) (below_alloc _ o1)
        clear hb c_A0_3 c_A1_3 c_A2_3 c_A3_3 c_R0_3 c_R1_3 c_R2_3 c_R3_3 f_R0_3 f_R1_3 f_R2_3 f_R3_3 o_e_3 r_d_3 T_3 ac_A0_3 bc_A0_3 ac_A1_3 bc_A1_3 ac_A2_3 bc_A2_3 ac_A3_3 bc_A3_3 ac_R0_3 bc_R0_3 ac_R1_3 bc_R1_3 ac_R2_3 bc_R2_3 ac_R3_3 bc_R3_3 af_R0_3 bf_R0_3 af_R1_3 bf_R1_3 af_R2_3 bf_R2_3 af_R3_3 bf_R3_3
        go_wp2_with fail
        refine bodyPost_ret (v := .tuple #[.agg #[.int .i64 0, .int .i64 0, .int .i64 0, .slice none 0 0], .int .i64 0, .bool false]) (by simp [results, Try.results54, go_sem, c_R0_4, c_R1_4, c_R2_4, c_R3_4]) rfl ⟨0, 0, 0, [], none, 0, 0, false, rfl, by simp, rdb_nil _ _, (((((T_4.out).setCell (p := ⟨w.heap.size + 1, 0, none⟩) (by show w.heap.size ≤ w.heap.size + 1; omega) _).setCell (p := ⟨w.heap.size + 1, 1, none⟩) (by show w.heap.size ≤ w.heap.size + 1; omega) _).setCell (p := ⟨w.heap.size + 1, 2, none⟩) (by show w.heap.size ≤ w.heap.size + 1; omega) _).setCell (p := ⟨w.heap.size + 1, 3, none⟩) (by show w.heap.size ≤ w.heap.size + 1; omega) _)⟩
      · skip
        go_enter Try.func54, Try.ntmps54
        have T_0 : Hid (Below w.heap.size w w) := Lib.hid (Below.refl _ _)
        go_wp2_with fail
        (with_reducible refine (S_OnceValid_q _ s o k _ xs true (rdb_rd (rdb_b (rdb_b (r_d_0.out) (below_alloc _ _)) (below_alloc _ _))) (by omega) HV.out).mono ?_)
        rintro e w1 ⟨rfl, hb⟩
        have c_A0_1 := cell_b (p := ⟨w.heap.size, 0, none⟩) (v := .int .i64 s) (by first | (simp; done) | (simp [World.cell?_alloc_past, World.cell?_alloc_at]; done)) hb
        have c_A1_1 := cell_b (p := ⟨w.heap.size, 1, none⟩) (v := .int .i64 o) (by first | (simp; done) | (simp [World.cell?_alloc_past, World.cell?_alloc_at]; done)) hb
        have c_A2_1 := cell_b (p := ⟨w.heap.size, 2, none⟩) (v := .int .i64 k) (by first | (simp; done) | (simp [World.cell?_alloc_past, World.cell?_alloc_at]; done)) hb
        have c_A3_1 := cell_b (p := ⟨w.heap.size, 3, none⟩) (v := .slice a xs.length cap) (by first | (simp; done) | (simp [World.cell?_alloc_past, World.cell?_alloc_at]; done)) hb
        have c_R0_1 := cell_b (p := ⟨w.heap.size + 1, 0, none⟩) (v := .int .i64 0) (by first | (simp; done) | (simp [World.cell?_alloc_past, World.cell?_alloc_at]; done)) hb
        have f_R0_1 := frz_b (p := ⟨w.heap.size + 1, 0, none⟩) (by first | omega | (simp; done) | (simp; omega)) (show _ = false by first | (simp; done) | (simp [World.frozen?_alloc_past, World.frozen?_alloc_at]; done)) hb
        have c_R1_1 := cell_b (p := ⟨w.heap.size + 1, 1, none⟩) (v := .int .i64 0) (by first | (simp; done) | (simp [World.cell?_alloc_past, World.cell?_alloc_at]; done)) hb
        have f_R1_1 := frz_b (p := ⟨w.heap.size + 1, 1, none⟩) (by first | omega | (simp; done) | (simp; omega)) (show _ = false by first | (simp; done) | (simp [World.frozen?_alloc_past, World.frozen?_alloc_at]; done)) hb
        have c_R2_1 := cell_b (p := ⟨w.heap.size + 1, 2, none⟩) (v := .int .i64 0) (by first | (simp; done) | (simp [World.cell?_alloc_past, World.cell?_alloc_at]; done)) hb
        have f_R2_1 := frz_b (p := ⟨w.heap.size + 1, 2, none⟩) (by first | omega | (simp; done) | (simp; omega)) (show _ = false by first | (simp; done) | (simp [World.frozen?_alloc_past, World.frozen?_alloc_at]; done)) hb
        have c_R3_1 := cell_b (p := ⟨w.heap.size + 1, 3, none⟩) (v := .slice none 0 0) (by first | (simp; done) | (simp [World.cell?_alloc_past, World.cell?_alloc_at]; done)) hb
        have f_R3_1 := frz_b (p := ⟨w.heap.size + 1, 3, none⟩) (by first | omega | (simp; done) | (simp; omega)) (show _ = false by first | (simp; done) | (simp [World.frozen?_alloc_past, World.frozen?_alloc_at]; done)) hb
        have r_d_1 := Lib.hid (rdb_b (rdb_b (rdb_b (r_d_0.out) (below_alloc _ _)) (below_alloc _ _)) hb)
        have T_1 := Lib.hid (below_trans (below_trans (below_trans (T_0.out) (below_alloc _ _)) (below_alloc _ _)) hb)
        have z_1 : w.heap.size + 2 ≤ w1.heap.size := (by have := hb.size; (try simp at this); omega)
        have ac_A0_1 := fun o => cell_b (c_A0_1) (below_alloc _ o)
        have bc_A0_1 := fun o o1 => cell_b (ac_A0_1 o) (below_alloc _ o1)
        have ac_A1_1 := fun o => cell_b (c_A1_1) (below_alloc _ o)
        have bc_A1_1 := fun o o1 => cell_b (ac_A1_1 o) (below_alloc _ o1)
        have ac_A2_1 := fun o => cell_b (c_A2_1) (below_alloc _ o)
        have bc_A2_1 := fun o o1 => cell_b (ac_A2_1 o) (below_alloc _ o1)
        have ac_A3_1 := fun o => cell_b (c_A3_1) (below_alloc _ o)
        have bc_A3_1 := fun o o1 => cell_b (ac_A3_1 o) (below_alloc _ o1)
        have ac_R0_1 := fun o => cell_b (c_R0_1) (below_alloc _ o)
        have bc_R0_1 := fun o o1 => cell_b (ac_R0_1 o) (below_alloc _ o1)
        have ac_R1_1 := fun o => cell_b (c_R1_1) (below_alloc _ o)
        have bc_R1_1 := fun o o1 => cell_b (ac_R1_1 o) (below_alloc _ o1)
        have ac_R2_1 := fun o => cell_b (c_R2_1) (below_alloc _ o)
        have bc_R2_1 := fun o o1 => cell_b (ac_R2_1 o) (below_alloc _ o1)
        have ac_R3_1 := fun o => cell_b (c_R3_1) (below_alloc _ o)
        have bc_R3_1 := fun o o1 => cell_b (ac_R3_1 o) (below_alloc _ o1)
        have af_R0_1 := fun o => frz_b (cell_lt (c_R0_1)) (f_R0_1) (below_alloc _ o)
        have bf_R0_1 := fun o o1 => frz_b (cell_lt (ac_R0_1 o)) (af_R0_1 o) (below_alloc _ o1)
        have af_R1_1 := fun o => frz_b (cell_lt (c_R1_1)) (f_R1_1) (below_alloc _ o)
        have bf_R1_1 := fun o o1 => frz_b (cell_lt (ac_R1_1 o)) (af_R1_1 o) (below_alloc _ o1)
        have af_R2_1 := fun o => frz_b (cell_lt (c_R2_1)) (f_R2_1) (below_alloc _ o)
        have bf_R2_1 := fun o o1 => frz_b (cell_lt (ac_R2_1 o)) (af_R2_1 o) (below_alloc _ o1)
        have af_R3_1 := fun o => frz_b (cell_lt (c_R3_1)) (f_R3_1) (below_alloc _ o)
        have bf_R3_1 := fun o o1 => frz_b (cell_lt (ac_R3_1 o)) (af_R3_1 o) (below_alloc _ o1)
        clear hb r_d_0 T_0
        go_wp2_with fail
        (with_reducible refine (same_b (S_l1Thread _ t)).mono ?_)
        rintro e w2 ⟨rfl, hb⟩
        have c_A0_2 := cell_b (c_A0_1) hb
        have c_A1_2 := cell_b (c_A1_1) hb
        have c_A2_2 := cell_b (c_A2_1) hb
        have c_A3_2 := cell_b (c_A3_1) hb
        have c_R0_2 := cell_b (c_R0_1) hb
        have c_R1_2 := cell_b (c_R1_1) hb
        have c_R2_2 := cell_b (c_R2_1) hb
        have c_R3_2 := cell_b (c_R3_1) hb
        have f_R0_2 := frz_b (cell_lt (c_R0_1)) (f_R0_1) hb
        have f_R1_2 := frz_b (cell_lt (c_R1_1)) (f_R1_1) hb
        have f_R2_2 := frz_b (cell_lt (c_R2_1)) (f_R2_1) hb
        have f_R3_2 := frz_b (cell_lt (c_R3_1)) (f_R3_1) hb
        have r_d_2 := Lib.hid (rdb_b (r_d_1.out) hb)
        have T_2 := Lib.hid (below_trans (T_1.out) hb)
        have z_2 : w1.heap.size ≤ w2.heap.size := (by have := hb.size; (try simp at this); omega)
        have ac_A0_2 := fun o => cell_b (c_A0_2) (below_alloc _ o)
        have bc_A0_2 := fun o o1 => cell_b (ac_A0_2 o) (below_alloc _ o1)
        have ac_A1_2 := fun o => cell_b (c_A1_2) (below_alloc _ o)
        have bc_A1_2 := fun o o1 => cell_b (ac_A1_2 o) (below_alloc _ o1)
        have ac_A2_2 := fun o => cell_b (c_A2_2) (below_alloc _ o)
        have bc_A2_2 := fun o o1 => cell_b (ac_A2_2 o) (below_alloc _ o1)
        have ac_A3_2 := fun o => cell_b (c_A3_2) (below_alloc _ o)
        have bc_A3_2 := fun o o1 => cell_b (ac_A3_2 o) (below_alloc _ o1)
        have ac_R0_2 := fun o => cell_b (c_R0_2) (below_alloc _ o)
        have bc_R0_2 := fun o o1 => cell_b (ac_R0_2 o) (below_alloc _ o1)
        have ac_R1_2 := fun o => cell_b (c_R1_2) (below_alloc _ o)
        have bc_R1_2 := fun o o1 => cell_b (ac_R1_2 o) (below_alloc _ o1)
        have ac_R2_2 := fun o => cell_b (c_R2_2) (below_alloc _ o)
        have bc_R2_2 := fun o o1 => cell_b (ac_R2_2 o) (below_alloc _ o1)
        have ac_R3_2 := fun o => cell_b (c_R3_2) (below_alloc _ o)
        have bc_R3_2 := fun o o1 => cell_b (ac_R3_2 o) (below_alloc _ o1)
        have af_R0_2 := fun o => frz_b (cell_lt (c_R0_2)) (f_R0_2) (below_alloc _ o)
        have bf_R0_2 := fun o o1 => frz_b (cell_lt (ac_R0_2 o)) (af_R0_2 o) (below_alloc _ o1)
        have af_R1_2 := fun o => frz_b (cell_lt (c_R1_2)) (f_R1_2) (below_alloc _ o)
        have bf_R1_2 := fun o o1 => frz_b (cell_lt (ac_R1_2 o)) (af_R1_2 o) (below_alloc _ o1)
        have af_R2_2 := fun o => frz_b (cell_lt (c_R2_2)) (f_R2_2) (below_alloc _ o)
        have bf_R2_2 := fun o o1 => frz_b (cell_lt (ac_R2_2 o)) (af_R2_2 o) (below_alloc _ o1)
        have af_R3_2 := fun o => frz_b (cell_lt (c_R3_2)) (f_R3_2) (below_alloc _ o)
        have bf_R3_2 := fun o o1 => frz_b (cell_lt (ac_R3_2 o)) (af_R3_2 o) (below_alloc _ o1)
        clear hb c_A0_1 c_A1_1 c_A2_1 c_A3_1 c_R0_1 c_R1_1 c_R2_1 c_R3_1 f_R0_1 f_R1_1 f_R2_1 f_R3_1 r_d_1 T_1 ac_A0_1 bc_A0_1 ac_A1_1 bc_A1_1 ac_A2_1 bc_A2_1 ac_A3_1 bc_A3_1 ac_R0_1 bc_R0_1 ac_R1_1 bc_R1_1 ac_R2_1 bc_R2_1 ac_R3_1 bc_R3_1 af_R0_1 bf_R0_1 af_R1_1 bf_R1_1 af_R2_1 bf_R2_1 af_R3_1 bf_R3_1
        go_wp2_with fail
        (with_reducible refine (S_l2Once _ s o k _ xs (r_d_2.out) (by omega)).mono ?_)
        rintro e w3 ⟨a1, cap1, rfl, hd, hb⟩
        have c_A0_3 := cell_b (c_A0_2) hb
        have c_A1_3 := cell_b (c_A1_2) hb
        have c_A2_3 := cell_b (c_A2_2) hb
        have c_A3_3 := cell_b (c_A3_2) hb
        have c_R0_3 := cell_b (c_R0_2) hb
        have c_R1_3 := cell_b (c_R1_2) hb
        have c_R2_3 := cell_b (c_R2_2) hb
        have c_R3_3 := cell_b (c_R3_2) hb
        have f_R0_3 := frz_b (cell_lt (c_R0_2)) (f_R0_2) hb
        have f_R1_3 := frz_b (cell_lt (c_R1_2)) (f_R1_2) hb
        have f_R2_3 := frz_b (cell_lt (c_R2_2)) (f_R2_2) hb
        have f_R3_3 := frz_b (cell_lt (c_R3_2)) (f_R3_2) hb
        have r_d_3 := Lib.hid (rdb_b (r_d_2.out) hb)
        have T_3 := Lib.hid (below_trans (T_2.out) hb)
        have z_3 : w2.heap.size ≤ w3.heap.size := (by have := hb.size; (try simp at this); omega)
        have o_e_3 := Lib.hid (own_base hd (show w2.heap.size ≤ _ by first | omega | (simp; done) | (simp; omega)))
        have lo_e := Lib.hid (own_lo o_e_3.out)
        have hi_e := Lib.hid (own_hi o_e_3.out)
        have ac_A0_3 := fun o => cell_b (c_A0_3) (below_alloc _ o)
        have bc_A0_3 := fun o o1 => cell_b (ac_A0_3 o) (below_alloc _ o1)
        have ac_A1_3 := fun o => cell_b (c_A1_3) (below_alloc _ o)
        have bc_A1_3 := fun o o1 => cell_b (ac_A1_3 o) (below_alloc _ o1)
        have ac_A2_3 := fun o => cell_b (c_A2_3) (below_alloc _ o)
        have bc_A2_3 := fun o o1 => cell_b (ac_A2_3 o) (below_alloc _ o1)
        have ac_A3_3 := fun o => cell_b (c_A3_3) (below_alloc _ o)
        have bc_A3_3 := fun o o1 => cell_b (ac_A3_3 o) (below_alloc _ o1)
        have ac_R0_3 := fun o => cell_b (c_R0_3) (below_alloc _ o)
        have bc_R0_3 := fun o o1 => cell_b (ac_R0_3 o) (below_alloc _ o1)
        have ac_R1_3 := fun o => cell_b (c_R1_3) (below_alloc _ o)
        have bc_R1_3 := fun o o1 => cell_b (ac_R1_3 o) (below_alloc _ o1)
        have ac_R2_3 := fun o => cell_b (c_R2_3) (below_alloc _ o)
        have bc_R2_3 := fun o o1 => cell_b (ac_R2_3 o) (below_alloc _ o1)
        have ac_R3_3 := fun o => cell_b (c_R3_3) (below_alloc _ o)
        have bc_R3_3 := fun o o1 => cell_b (ac_R3_3 o) (below_alloc _ o1)
        have af_R0_3 := fun o => frz_b (cell_lt (c_R0_3)) (f_R0_3) (below_alloc _ o)
        have bf_R0_3 := fun o o1 => frz_b (cell_lt (ac_R0_3 o)) (af_R0_3 o) (below_alloc _ o1)
        have af_R1_3 := fun o => frz_b (cell_lt (c_R1_3)) (f_R1_3) (below_alloc _ o)
        have bf_R1_3 := fun o o1 => frz_b (cell_lt (ac_R1_3 o)) (af_R1_3 o) (below_alloc _ o1)
        have af_R2_3 := fun o => frz_b (cell_lt (c_R2_3)) (f_R2_3) (below_alloc _ o)
        have bf_R2_3 := fun o o1 => frz_b (cell_lt (ac_R2_3 o)) (af_R2_3 o) (below_alloc _ o1)
        have af_R3_3 := fun o => frz_b (cell_lt (c_R3_3)) (f_R3_3) (below_alloc _ o)
        have bf_R3_3 := fun o o1 => frz_b (cell_lt (ac_R3_3 o)) (af_R3_3 o) (below_alloc _ o1)
        clear hb c_A0_2 c_A1_2 c_A2_2 c_A3_2 c_R0_2 c_R1_2 c_R2_2 c_R3_2 f_R0_2 f_R1_2 f_R2_2 f_R3_2 r_d_2 T_2 ac_A0_2 bc_A0_2 ac_A1_2 bc_A1_2 ac_A2_2 bc_A2_2 ac_A3_2 bc_A3_2 ac_R0_2 bc_R0_2 ac_R1_2 bc_R1_2 ac_R2_2 bc_R2_2 ac_R3_2 bc_R3_2 af_R0_2 bf_R0_2 af_R1_2 bf_R1_2 af_R2_2 bf_R2_2 af_R3_2 bf_R3_2 hd
        go_wp2_with fail
        (with_reducible refine (same_b (S_l2At _ _ xs t (rdb_rd (rdb_b (r_d_3.out) (below_alloc _ _))) (by omega))).mono ?_)
        rintro e w4 ⟨rfl, hb⟩
        have c_A0_4 := cell_b (cell_b (c_A0_3) (below_alloc _ _)) hb
        have c_A1_4 := cell_b (cell_b (c_A1_3) (below_alloc _ _)) hb
        have c_A2_4 := cell_b (cell_b (c_A2_3) (below_alloc _ _)) hb
        have c_A3_4 := cell_b (cell_b (c_A3_3) (below_alloc _ _)) hb
        have c_R0_4 := cell_b (cell_b (c_R0_3) (below_alloc _ _)) hb
        have c_R1_4 := cell_b (cell_b (c_R1_3) (below_alloc _ _)) hb
        have c_R2_4 := cell_b (cell_b (c_R2_3) (below_alloc _ _)) hb
        have c_R3_4 := cell_b (cell_b (c_R3_3) (below_alloc _ _)) hb
        have f_R0_4 := frz_b (cell_lt (cell_b (c_R0_3) (below_alloc _ _))) (frz_b (cell_lt (c_R0_3)) (f_R0_3) (below_alloc _ _)) hb
        have f_R1_4 := frz_b (cell_lt (cell_b (c_R1_3) (below_alloc _ _))) (frz_b (cell_lt (c_R1_3)) (f_R1_3) (below_alloc _ _)) hb
        have f_R2_4 := frz_b (cell_lt (cell_b (c_R2_3) (below_alloc _ _))) (frz_b (cell_lt (c_R2_3)) (f_R2_3) (below_alloc _ _)) hb
        have f_R3_4 := frz_b (cell_lt (cell_b (c_R3_3) (below_alloc _ _))) (frz_b (cell_lt (c_R3_3)) (f_R3_3) (below_alloc _ _)) hb
        have c_O0_4 := cell_b (p := ⟨w3.heap.size, 0, none⟩) (v := .int .i64 s) (by first | (simp; done) | (simp [World.cell?_alloc_past, World.cell?_alloc_at]; done)) hb
        have f_O0_4 := frz_b (p := ⟨w3.heap.size, 0, none⟩) (by first | omega | (simp; done) | (simp; omega)) (show _ = false by first | (simp; done) | (simp [World.frozen?_alloc_past, World.frozen?_alloc_at]; done)) hb
        have c_O1_4 := cell_b (p := ⟨w3.heap.size, 1, none⟩) (v := .int .i64 o) (by first | (simp; done) | (simp [World.cell?_alloc_past, World.cell?_alloc_at]; done)) hb
        have f_O1_4 := frz_b (p := ⟨w3.heap.size, 1, none⟩) (by first | omega | (simp; done) | (simp; omega)) (show _ = false by first | (simp; done) | (simp [World.frozen?_alloc_past, World.frozen?_alloc_at]; done)) hb
        have c_O2_4 := cell_b (p := ⟨w3.heap.size, 2, none⟩) (v := .int .i64 k) (by first | (simp; done) | (simp [World.cell?_alloc_past, World.cell?_alloc_at]; done)) hb
        have f_O2_4 := frz_b (p := ⟨w3.heap.size, 2, none⟩) (by first | omega | (simp; done) | (simp; omega)) (show _ = false by first | (simp; done) | (simp [World.frozen?_alloc_past, World.frozen?_alloc_at]; done)) hb
        have c_O3_4 := cell_b (p := ⟨w3.heap.size, 3, none⟩) (v := .slice a1 xs.length cap1) (by first | (simp; done) | (simp [World.cell?_alloc_past, World.cell?_alloc_at]; done)) hb
        have f_O3_4 := frz_b (p := ⟨w3.heap.size, 3, none⟩) (by first | omega | (simp; done) | (simp; omega)) (show _ = false by first | (simp; done) | (simp [World.frozen?_alloc_past, World.frozen?_alloc_at]; done)) hb
        have o_e_4 := Lib.hid (own_below (own_below (o_e_3.out) (below_alloc _ _)) hb)
        have r_d_4 := Lib.hid (rdb_b (rdb_b (r_d_3.out) (below_alloc _ _)) hb)
        have T_4 := Lib.hid (below_trans (below_trans (T_3.out) (below_alloc _ _)) hb)
        have z_4 : w3.heap.size + 1 ≤ w4.heap.size := (by have := hb.size; (try simp at this); omega)
        have ac_A0_4 := fun o => cell_b (c_A0_4) (below_alloc _ o)
        have bc_A0_4 := fun o o1 => cell_b (ac_A0_4 o) (below_alloc _ o1)
        have ac_A1_4 := fun o => cell_b (c_A1_4) (below_alloc _ o)
        have bc_A1_4 := fun o o1 => cell_b (ac_A1_4 o) (below_alloc _ o1)
        have ac_A2_4 := fun o => cell_b (c_A2_4) (below_alloc _ o)
        have bc_A2_4 := fun o o1 => cell_b (ac_A2_4 o) (below_alloc _ o1)
        have ac_A3_4 := fun o => cell_b (c_A3_4) (below_alloc _ o)
        have bc_A3_4 := fun o o1 => cell_b (ac_A3_4 o) (below_alloc _ o1)
        have ac_R0_4 := fun o => cell_b (c_R0_4) (below_alloc _ o)
        have bc_R0_4 := fun o o1 => cell_b (ac_R0_4 o) (below_alloc _ o1)
        have ac_R1_4 := fun o => cell_b (c_R1_4) (below_alloc _ o)
        have bc_R1_4 := fun o o1 => cell_b (ac_R1_4 o) (below_alloc _ o1)
        have ac_R2_4 := fun o => cell_b (c_R2_4) (below_alloc _ o)
        have bc_R2_4 := fun o o1 => cell_b (ac_R2_4 o) (below_alloc _ o1)
        have ac_R3_4 := fun o => cell_b (c_R3_4) (below_alloc _ o)
        have bc_R3_4 := fun o o1 => cell_b (ac_R3_4 o) (below_alloc _ o1)
        have ac_O0_4 := fun o => cell_b (c_O0_4) (below_alloc _ o)
        have bc_O0_4 := fun o o1 => cell_b (ac_O0_4 o) (below_alloc _ o1)
        have ac_O1_4 := fun o => cell_b (c_O1_4) (below_alloc _ o)
        have bc_O1_4 := fun o o1 => cell_b (ac_O1_4 o) (below_alloc _ o1)
        have ac_O2_4 := fun o => cell_b (c_O2_4) (below_alloc _ o)
        have bc_O2_4 := fun o o1 => cell_b (ac_O2_4 o) (below_alloc _ o1)
        have ac_O3_4 := fun o => cell_b (c_O3_4) (below_alloc _ o)
        have bc_O3_4 := fun o o1 => cell_b (ac_O3_4 o) (below_alloc _ o1)
        have af_R0_4 := fun o => frz_b (cell_lt (c_R0_4)) (f_R0_4) (below_alloc _ o)
        have bf_R0_4 := fun o o1 => frz_b (cell_lt (ac_R0_4 o)) (af_R0_4 o) (below_alloc _ o1)
        have af_R1_4 := fun o => frz_b (cell_lt (c_R1_4)) (f_R1_4) (below_alloc _ o)
        have bf_R1_4 := fun o o1 => frz_b (cell_lt (ac_R1_4 o)) (af_R1_4 o) (below_alloc _ o1)
        have af_R2_4 := fun o => frz_b (cell_lt (c_R2_4)) (f_R2_4) (below_alloc _ o)
        have bf_R2_4 := fun o o1 => frz_b (cell_lt (ac_R2_4 o)) (af_R2_4 o) (below_alloc _ o1)
        have af_R3_4 := fun o => frz_b (cell_lt (c_R3_4)) (f_R3_4) (below_alloc _ o)
        have bf_R3_4 := fun o o1 => frz_b (cell_lt (ac_R3_4 o)) (af_R3_4 o) (below_alloc _ o1)
        have af_O0_4 := fun o => frz_b (cell_lt (c_O0_4)) (f_O0_4) (below_alloc _ o)
        have bf_O0_4 := fun o o1 => frz_b (cell_lt (ac_O0_4 o)) (af_O0_4 o) (below_alloc _ o1)
        have af_O1_4 := fun o => frz_b (cell_lt (c_O1_4)) (f_O1_4) (below_alloc _ o)
        have bf_O1_4 := fun o o1 => frz_b (cell_lt (ac_O1_4 o)) (af_O1_4 o) (below_alloc _ o1)
        have af_O2_4 := fun o => frz_b (cell_lt (c_O2_4)) (f_O2_4) (below_alloc _ o)
        have bf_O2_4 := fun o o1 => frz_b (cell_lt (ac_O2_4 o)) (af_O2_4 o) (below_alloc _ o1)
        have af_O3_4 := fun o => frz_b (cell_lt (c_O3_4)) (f_O3_4) (below_alloc _ o)
        have bf_O3_4 := fun o o1 => frz_b (cell_lt (ac_O3_4 o)) (af_O3_4 o) (below_alloc _ o1)
        clear hb c_A0_3 c_A1_3 c_A2_3 c_A3_3 c_R0_3 c_R1_3 c_R2_3 c_R3_3 f_R0_3 f_R1_3 f_R2_3 f_R3_3 o_e_3 r_d_3 T_3 ac_A0_3 bc_A0_3 ac_A1_3 bc_A1_3 ac_A2_3 bc_A2_3 ac_A3_3 bc_A3_3 ac_R0_3 bc_R0_3 ac_R1_3 bc_R1_3 ac_R2_3 bc_R2_3 ac_R3_3 bc_R3_3 af_R0_3 bf_R0_3 af_R1_3 bf_R1_3 af_R2_3 bf_R2_3 af_R3_3 bf_R3_3
        have tok5 : True := trivial
        go_wp2_with (first | (at_builtin; have _t := tok5; refine wpList_append_own_at _ rfl _ _ 23 rfl (w2.heap.size) 3 i0 (.int .i64 0) 1 8 Try.underlying23 hi hz0 hz1 hz2 rfl (by decide) (.slice a1 xs.length cap1) (xs.length) (ints (xs)) rfl (own_below (o_e_4.out) (below_alloc _ _)) ⟨w4.heap.size, 0, none⟩ 1 1 [.int .i64 (t)] rfl rfl (cell_one_new _ _ _) (ints_oneCell .i64 [t]) (by unfold maxLen; omega) (by omega) (by first | omega | (simp; done) | (simp; omega)) ?_; intro v5 w5 hown hgr _ hloc; clear tok5; have ho : w5.ownsRow (w2.heap.size) 3 1 v5 (xs.length + 1) (ints (xs ++ [t])) := (by rw [ints_append]; exact hown); obtain ⟨a2, cap2, hv⟩ := own_shape ho; subst hv; have iv_f : Hid (∀ g, (Value.slice a2 (xs.length + 1) cap2).ownBlock = some g → (w2.heap.size ≤ g ∧ g < w3.heap.size) ∨ (w4.heap.size + 1 ≤ g ∧ g < w5.heap.size)) := Lib.hid (fun g h => by have h9 := hgr.size; have h7 := own_hi ho g h; rcases hloc with h8 | h8 <;> rw [h8] at h <;> first | (have h1 := lo_e.out g h; have h2 := hi_e.out g h; (try simp at h9); omega) | (injection h with h; (try simp at h9); (try simp at h); omega)); have c_A0_5 := cell_gr (cell_b (c_A0_4) (below_alloc _ _)) hgr (fun g h => by have h1 := lo_e.out g h; have h2 := hi_e.out g h; show w.heap.size ≠ g; omega); have c_A1_5 := cell_gr (cell_b (c_A1_4) (below_alloc _ _)) hgr (fun g h => by have h1 := lo_e.out g h; have h2 := hi_e.out g h; show w.heap.size ≠ g; omega); have c_A2_5 := cell_gr (cell_b (c_A2_4) (below_alloc _ _)) hgr (fun g h => by have h1 := lo_e.out g h; have h2 := hi_e.out g h; show w.heap.size ≠ g; omega); have c_A3_5 := cell_gr (cell_b (c_A3_4) (below_alloc _ _)) hgr (fun g h => by have h1 := lo_e.out g h; have h2 := hi_e.out g h; show w.heap.size ≠ g; omega); have c_R0_5 := cell_gr (cell_b (c_R0_4) (below_alloc _ _)) hgr (fun g h => by have h1 := lo_e.out g h; have h2 := hi_e.out g h; show w.heap.size + 1 ≠ g; omega); have c_R1_5 := cell_gr (cell_b (c_R1_4) (below_alloc _ _)) hgr (fun g h => by have h1 := lo_e.out g h; have h2 := hi_e.out g h; show w.heap.size + 1 ≠ g; omega); have c_R2_5 := cell_gr (cell_b (c_R2_4) (below_alloc _ _)) hgr (fun g h => by have h1 := lo_e.out g h; have h2 := hi_e.out g h; show w.heap.size + 1 ≠ g; omega); have c_R3_5 := cell_gr (cell_b (c_R3_4) (below_alloc _ _)) hgr (fun g h => by have h1 := lo_e.out g h; have h2 := hi_e.out g h; show w.heap.size + 1 ≠ g; omega); have c_O0_5 := cell_gr (cell_b (c_O0_4) (below_alloc _ _)) hgr (fun g h => by have h1 := lo_e.out g h; have h2 := hi_e.out g h; show w3.heap.size ≠ g; omega); have c_O1_5 := cell_gr (cell_b (c_O1_4) (below_alloc _ _)) hgr (fun g h => by have h1 := lo_e.out g h; have h2 := hi_e.out g h; show w3.heap.size ≠ g; omega); have c_O2_5 := cell_gr (cell_b (c_O2_4) (below_alloc _ _)) hgr (fun g h => by have h1 := lo_e.out g h; have h2 := hi_e.out g h; show w3.heap.size ≠ g; omega); have c_O3_5 := cell_gr (cell_b (c_O3_4) (below_alloc _ _)) hgr (fun g h => by have h1 := lo_e.out g h; have h2 := hi_e.out g h; show w3.heap.size ≠ g; omega); have f_R0_5 := (frz_gr (p := ⟨w.heap.size + 1, 0, none⟩) (cell_lt (cell_b (c_R0_4) (below_alloc _ _))) hgr (fun g h => by have h1 := lo_e.out g h; have h2 := hi_e.out g h; show w.heap.size + 1 ≠ g; omega)).trans (frz_b (cell_lt (c_R0_4)) (f_R0_4) (below_alloc _ _)); have f_R1_5 := (frz_gr (p := ⟨w.heap.size + 1, 1, none⟩) (cell_lt (cell_b (c_R1_4) (below_alloc _ _))) hgr (fun g h => by have h1 := lo_e.out g h; have h2 := hi_e.out g h; show w.heap.size + 1 ≠ g; omega)).trans (frz_b (cell_lt (c_R1_4)) (f_R1_4) (below_alloc _ _)); have f_R2_5 := (frz_gr (p := ⟨w.heap.size + 1, 2, none⟩) (cell_lt (cell_b (c_R2_4) (below_alloc _ _))) hgr (fun g h => by have h1 := lo_e.out g h; have h2 := hi_e.out g h; show w.heap.size + 1 ≠ g; omega)).trans (frz_b (cell_lt (c_R2_4)) (f_R2_4) (below_alloc _ _)); have f_R3_5 := (frz_gr (p := ⟨w.heap.size + 1, 3, none⟩) (cell_lt (cell_b (c_R3_4) (below_alloc _ _))) hgr (fun g h => by have h1 := lo_e.out g h; have h2 := hi_e.out g h; show w.heap.size + 1 ≠ g; omega)).trans (frz_b (cell_lt (c_R3_4)) (f_R3_4) (below_alloc _ _)); have f_O0_5 := (frz_gr (p := ⟨w3.heap.size, 0, none⟩) (cell_lt (cell_b (c_O0_4) (below_alloc _ _))) hgr (fun g h => by have h1 := lo_e.out g h; have h2 := hi_e.out g h; show w3.heap.size ≠ g; omega)).trans (frz_b (cell_lt (c_O0_4)) (f_O0_4) (below_alloc _ _)); have f_O1_5 := (frz_gr (p := ⟨w3.heap.size, 1, none⟩) (cell_lt (cell_b (c_O1_4) (below_alloc _ _))) hgr (fun g h => by have h1 := lo_e.out g h; have h2 := hi_e.out g h; show w3.heap.size ≠ g; omega)).trans (frz_b (cell_lt (c_O1_4)) (f_O1_4) (below_alloc _ _)); have f_O2_5 := (frz_gr (p := ⟨w3.heap.size, 2, none⟩) (cell_lt (cell_b (c_O2_4) (below_alloc _ _))) hgr (fun g h => by have h1 := lo_e.out g h; have h2 := hi_e.out g h; show w3.heap.size ≠ g; omega)).trans (frz_b (cell_lt (c_O2_4)) (f_O2_4) (below_alloc _ _)); have f_O3_5 := (frz_gr (p := ⟨w3.heap.size, 3, none⟩) (cell_lt (cell_b (c_O3_4) (below_alloc _ _))) hgr (fun g h => by have h1 := lo_e.out g h; have h2 := hi_e.out g h; show w3.heap.size ≠ g; omega)).trans (frz_b (cell_lt (c_O3_4)) (f_O3_4) (below_alloc _ _)); have r_d_5 := Lib.hid (rdb_gr (rdb_b (r_d_4.out) (below_alloc _ _)) hgr (fun g g' h h' => by have h1 := lo_e.out g h; have h2 := hi_e.out g h; have h3 := lr_d.out g' h'; have h4 := hr_d.out g' h'; omega)); have T_5 := Lib.hid (below_gr (below_trans (T_4.out) (below_alloc _ _)) (by first | omega | (simp; done) | (simp; omega)) hgr (fun g h => by have h1 := lo_e.out g h; have h2 := hi_e.out g h; omega)); have z_5 : w4.heap.size + 1 ≤ w5.heap.size := (by have := hgr.size; (try simp at this); omega); have o_f_5 := Lib.hid ho; have lo_f := Lib.hid (own_lo o_f_5.out); have hi_f := Lib.hid (own_hi o_f_5.out); have ac_A0_5 := fun o => cell_b (c_A0_5) (below_alloc _ o); have bc_A0_5 := fun o o1 => cell_b (ac_A0_5 o) (below_alloc _ o1); have ac_A1_5 := fun o => cell_b (c_A1_5) (below_alloc _ o); have bc_A1_5 := fun o o1 => cell_b (ac_A1_5 o) (below_alloc _ o1); have ac_A2_5 := fun o => cell_b (c_A2_5) (below_alloc _ o); have bc_A2_5 := fun o o1 => cell_b (ac_A2_5 o) (below_alloc _ o1); have ac_A3_5 := fun o => cell_b (c_A3_5) (below_alloc _ o); have bc_A3_5 := fun o o1 => cell_b (ac_A3_5 o) (below_alloc _ o1); have ac_R0_5 := fun o => cell_b (c_R0_5) (below_alloc _ o); have bc_R0_5 := fun o o1 => cell_b (ac_R0_5 o) (below_alloc _ o1); have ac_R1_5 := fun o => cell_b (c_R1_5) (below_alloc _ o); have bc_R1_5 := fun o o1 => cell_b (ac_R1_5 o) (below_alloc _ o1); have ac_R2_5 := fun o => cell_b (c_R2_5) (below_alloc _ o); have bc_R2_5 := fun o o1 => cell_b (ac_R2_5 o) (below_alloc _ o1); have ac_R3_5 := fun o => cell_b (c_R3_5) (below_alloc _ o); have bc_R3_5 := fun o o1 => cell_b (ac_R3_5 o) (below_alloc _ o1); have ac_O0_5 := fun o => cell_b (c_O0_5) (below_alloc _ o); have bc_O0_5 := fun o o1 => cell_b (ac_O0_5 o) (below_alloc _ o1); have ac_O1_5 := fun o => cell_b (c_O1_5) (below_alloc _ o); have bc_O1_5 := fun o o1 => cell_b (ac_O1_5 o) (below_alloc _ o1); have ac_O2_5 := fun o => cell_b (c_O2_5) (below_alloc _ o); have bc_O2_5 := fun o o1 => cell_b (ac_O2_5 o) (below_alloc _ o1); have ac_O3_5 := fun o => cell_b (c_O3_5) (below_alloc _ o); have bc_O3_5 := fun o o1 => cell_b (ac_O3_5 o) (below_alloc _ o1); have af_R0_5 := fun o => frz_b (cell_lt (c_R0_5)) (f_R0_5) (below_alloc _ o); have bf_R0_5 := fun o o1 => frz_b (cell_lt (ac_R0_5 o)) (af_R0_5 o) (below_alloc _ o1); have af_R1_5 := fun o => frz_b (cell_lt (c_R1_5)) (f_R1_5) (below_alloc _ o); have bf_R1_5 := fun o o1 => frz_b (cell_lt (ac_R1_5 o)) (af_R1_5 o) (below_alloc _ o1); have af_R2_5 := fun o => frz_b (cell_lt (c_R2_5)) (f_R2_5) (below_alloc _ o); have bf_R2_5 := fun o o1 => frz_b (cell_lt (ac_R2_5 o)) (af_R2_5 o) (below_alloc _ o1); have af_R3_5 := fun o => frz_b (cell_lt (c_R3_5)) (f_R3_5) (below_alloc _ o); have bf_R3_5 := fun o o1 => frz_b (cell_lt (ac_R3_5 o)) (af_R3_5 o) (below_alloc _ o1); have af_O0_5 := fun o => frz_b (cell_lt (c_O0_5)) (f_O0_5) (below_alloc _ o); have bf_O0_5 := fun o o1 => frz_b (cell_lt (ac_O0_5 o)) (af_O0_5 o) (below_alloc _ o1); have af_O1_5 := fun o => frz_b (cell_lt (c_O1_5)) (f_O1_5) (below_alloc _ o); have bf_O1_5 := fun o o1 => frz_b (cell_lt (ac_O1_5 o)) (af_O1_5 o) (below_alloc _ o1); have af_O2_5 := fun o => frz_b (cell_lt (c_O2_5)) (f_O2_5) (below_alloc _ o); have bf_O2_5 := fun o o1 => frz_b (cell_lt (ac_O2_5 o)) (af_O2_5 o) (below_alloc _ o1); have af_O3_5 := fun o => frz_b (cell_lt (c_O3_5)) (f_O3_5) (below_alloc _ o); have bf_O3_5 := fun o o1 => frz_b (cell_lt (ac_O3_5 o)) (af_O3_5 o) (below_alloc _ o1); clear hgr c_A0_4 c_A1_4 c_A2_4 c_A3_4 c_R0_4 c_R1_4 c_R2_4 c_R3_4 c_O0_4 c_O1_4 c_O2_4 c_O3_4 f_R0_4 f_R1_4 f_R2_4 f_R3_4 f_O0_4 f_O1_4 f_O2_4 f_O3_4 r_d_4 T_4 ac_A0_4 bc_A0_4 ac_A1_4 bc_A1_4 ac_A2_4 bc_A2_4 ac_A3_4 bc_A3_4 ac_R0_4 bc_R0_4 ac_R1_4 bc_R1_4 ac_R2_4 bc_R2_4 ac_R3_4 bc_R3_4 ac_O0_4 bc_O0_4 ac_O1_4 bc_O1_4 ac_O2_4 bc_O2_4 ac_O3_4 bc_O3_4 af_R0_4 bf_R0_4 af_R1_4 bf_R1_4 af_R2_4 bf_R2_4 af_R3_4 bf_R3_4 af_O0_4 bf_O0_4 af_O1_4 bf_O1_4 af_O2_4 bf_O2_4 af_O3_4 bf_O3_4 hown ho hloc o_e_4 lo_e hi_e))
        have e9 : (xs ++ [t]).length = xs.length + 1 := by simp
        go_wp2_with fail
        refine bodyPost_ret (v := .tuple #[.agg #[.int .i64 s, .int .i64 o, .int .i64 k, .slice a2 (xs.length + 1) cap2], .int .i64 1, .bool true]) (by simp [results, Try.results54, go_sem, c_R0_5, c_R1_5, c_R2_5, c_R3_5]) rfl ⟨s, o, k, xs ++ [t], a2, cap2, 1, true, by rw [e9], by omega, ?_, ((((((T_5.out).setCell (p := ⟨w3.heap.size, 3, none⟩) (by show w.heap.size ≤ w3.heap.size; omega) _).setCell (p := ⟨w.heap.size + 1, 0, none⟩) (by show w.heap.size ≤ w.heap.size + 1; omega) _).setCell (p := ⟨w.heap.size + 1, 1, none⟩) (by show w.heap.size ≤ w.heap.size + 1; omega) _).setCell (p := ⟨w.heap.size + 1, 2, none⟩) (by show w.heap.size ≤ w.heap.size + 1; omega) _).setCell (p := ⟨w.heap.size + 1, 3, none⟩) (by show w.heap.size ≤ w.heap.size + 1; omega) _)⟩
        rw [e9]
        exact rdb_mono (ow_rdb (own_set (p := ⟨w.heap.size + 1, 3, none⟩) (own_set (p := ⟨w.heap.size + 1, 2, none⟩) (own_set (p := ⟨w.heap.size + 1, 1, none⟩) (own_set (p := ⟨w.heap.size + 1, 0, none⟩) (own_set (p := ⟨w3.heap.size, 3, none⟩) ((ow_eq o_f_5.out rfl e9.symm)) (fun g h => by have h1 := lo_f.out g h; have h2 := hi_f.out g h; have h5 := iv_f.out g h; show g ≠ w3.heap.size; omega) _) (fun g h => by have h1 := lo_f.out g h; have h2 := hi_f.out g h; have h5 := iv_f.out g h; show g ≠ w.heap.size + 1; omega) _) (fun g h => by have h1 := lo_f.out g h; have h2 := hi_f.out g h; have h5 := iv_f.out g h; show g ≠ w.heap.size + 1; omega) _) (fun g h => by have h1 := lo_f.out g h; have h2 := hi_f.out g h; have h5 := iv_f.out g h; show g ≠ w.heap.size + 1; omega) _) (fun g h => by have h1 := lo_f.out g h; have h2 := hi_f.out g h; have h5 := iv_f.out g h; show g ≠ w.heap.size + 1; omega) _)) (by omega)
    · have ht1 : thr t = false := by simpa using ht
      go_enter Try.func54, Try.ntmps54
      have T_0 : Hid (Below w.heap.size w w) := Lib.hid (Below.refl _ _)
      go_wp2_with fail
      (with_reducible refine (S_OnceValid_q _ s o k _ xs true (rdb_rd (rdb_b (rdb_b (r_d_0.out) (below_alloc _ _)) (below_alloc _ _))) (by omega) HV.out).mono ?_)
      rintro e w1 ⟨rfl, hb⟩
      have c_A0_1 := cell_b (p := ⟨w.heap.size, 0, none⟩) (v := .int .i64 s) (by first | (simp; done) | (simp [World.cell?_alloc_past, World.cell?_alloc_at]; done)) hb
      have c_A1_1 := cell_b (p := ⟨w.heap.size, 1, none⟩) (v := .int .i64 o) (by first | (simp; done) | (simp [World.cell?_alloc_past, World.cell?_alloc_at]; done)) hb
      have c_A2_1 := cell_b (p := ⟨w.heap.size, 2, none⟩) (v := .int .i64 k) (by first | (simp; done) | (simp [World.cell?_alloc_past, World.cell?_alloc_at]; done)) hb
      have c_A3_1 := cell_b (p := ⟨w.heap.size, 3, none⟩) (v := .slice a xs.length cap) (by first | (simp; done) | (simp [World.cell?_alloc_past, World.cell?_alloc_at]; done)) hb
      have c_R0_1 := cell_b (p := ⟨w.heap.size + 1, 0, none⟩) (v := .int .i64 0) (by first | (simp; done) | (simp [World.cell?_alloc_past, World.cell?_alloc_at]; done)) hb
      have f_R0_1 := frz_b (p := ⟨w.heap.size + 1, 0, none⟩) (by first | omega | (simp; done) | (simp; omega)) (show _ = false by first | (simp; done) | (simp [World.frozen?_alloc_past, World.frozen?_alloc_at]; done)) hb
      have c_R1_1 := cell_b (p := ⟨w.heap.size + 1, 1, none⟩) (v := .int .i64 0) (by first | (simp; done) | (simp [World.cell?_alloc_past, World.cell?_alloc_at]; done)) hb
      have f_R1_1 := frz_b (p := ⟨w.heap.size + 1, 1, none⟩) (by first | omega | (simp; done) | (simp; omega)) (show _ = false by first | (simp; done) | (simp [World.frozen?_alloc_past, World.frozen?_alloc_at]; done)) hb
      have c_R2_1 := cell_b (p := ⟨w.heap.size + 1, 2, none⟩) (v := .int .i64 0) (by first | (simp; done) | (simp [World.cell?_alloc_past, World.cell?_alloc_at]; done)) hb
      have f_R2_1 := frz_b (p := ⟨w.heap.size + 1, 2, none⟩) (by first | omega | (simp; done) | (simp; omega)) (show _ = false by first | (simp; done) | (simp [World.frozen?_alloc_past, World.frozen?_alloc_at]; done)) hb
      have c_R3_1 := cell_b (p := ⟨w.heap.size + 1, 3, none⟩) (v := .slice none 0 0) (by first | (simp; done) | (simp [World.cell?_alloc_past, World.cell?_alloc_at]; done)) hb
      have f_R3_1 := frz_b (p := ⟨w.heap.size + 1, 3, none⟩) (by first | omega | (simp; done) | (simp; omega)) (show _ = false by first | (simp; done) | (simp [World.frozen?_alloc_past, World.frozen?_alloc_at]; done)) hb
      have r_d_1 := Lib.hid (rdb_b (rdb_b (rdb_b (r_d_0.out) (below_alloc _ _)) (below_alloc _ _)) hb)
      have T_1 := Lib.hid (below_trans (below_trans (below_trans (T_0.out) (below_alloc _ _)) (below_alloc _ _)) hb)
      have z_1 : w.heap.size + 2 ≤ w1.heap.size := (by have := hb.size; (try simp at this); omega)
      have ac_A0_1 := fun o => cell_b (c_A0_1) (below_alloc _ o)
      have bc_A0_1 := fun o o1 => cell_b (ac_A0_1 o) (below_alloc _ o1)
      have ac_A1_1 := fun o => cell_b (c_A1_1) (below_alloc _ o)
      have bc_A1_1 := fun o o1 => cell_b (ac_A1_1 o) (below_alloc _ o1)
      have ac_A2_1 := fun o => cell_b (c_A2_1) (below_alloc _ o)
      have bc_A2_1 := fun o o1 => cell_b (ac_A2_1 o) (below_alloc _ o1)
      have ac_A3_1 := fun o => cell_b (c_A3_1) (below_alloc _ o)
      have bc_A3_1 := fun o o1 => cell_b (ac_A3_1 o) (below_alloc _ o1)
      have ac_R0_1 := fun o => cell_b (c_R0_1) (below_alloc _ o)
      have bc_R0_1 := fun o o1 => cell_b (ac_R0_1 o) (below_alloc _ o1)
      have ac_R1_1 := fun o => cell_b (c_R1_1) (below_alloc _ o)
      have bc_R1_1 := fun o o1 => cell_b (ac_R1_1 o) (below_alloc _ o1)
      have ac_R2_1 := fun o => cell_b (c_R2_1) (below_alloc _ o)
      have bc_R2_1 := fun o o1 => cell_b (ac_R2_1 o) (below_alloc _ o1)
      have ac_R3_1 := fun o => cell_b (c_R3_1) (below_alloc _ o)
      have bc_R3_1 := fun o o1 => cell_b (ac_R3_1 o) (below_alloc _ o1)
      have af_R0_1 := fun o => frz_b (cell_lt (c_R0_1)) (f_R0_1) (below_alloc _ o)
      have bf_R0_1 := fun o o1 => frz_b (cell_lt (ac_R0_1 o)) (af_R0_1 o) (below_alloc _ o1)
      have af_R1_1 := fun o => frz_b (cell_lt (c_R1_1)) (f_R1_1) (below_alloc _ o)
      have bf_R1_1 := fun o o1 => frz_b (cell_lt (ac_R1_1 o)) (af_R1_1 o) (below_alloc _ o1)
      have af_R2_1 := fun o => frz_b (cell_lt (c_R2_1)) (f_R2_1) (below_alloc _ o)
      have bf_R2_1 := fun o o1 => frz_b (cell_lt (ac_R2_1 o)) (af_R2_1 o) (below_alloc _ o1)
      have af_R3_1 := fun o => frz_b (cell_lt (c_R3_1)) (f_R3_1) (below_alloc _ o)
      have bf_R3_1 := fun o o1 => frz_b (cell_lt (ac_R3_1 o)) (af_R3_1 o) (below_alloc _ o1)
      clear hb r_d_0 T_0
      go_wp2_with fail
      (with_reducible refine (same_b (S_l1Thread _ t)).mono ?_)
      rintro e w2 ⟨rfl, hb⟩
      have c_A0_2 := cell_b (c_A0_1) hb
      have c_A1_2 := cell_b (c_A1_1) hb
      have c_A2_2 := cell_b (c_A2_1) hb
      have c_A3_2 := cell_b (c_A3_1) hb
      have c_R0_2 := cell_b (c_R0_1) hb
      have c_R1_2 := cell_b (c_R1_1) hb
      have c_R2_2 := cell_b (c_R2_1) hb
      have c_R3_2 := cell_b (c_R3_1) hb
      have f_R0_2 := frz_b (cell_lt (c_R0_1)) (f_R0_1) hb
      have f_R1_2 := frz_b (cell_lt (c_R1_1)) (f_R1_1) hb
      have f_R2_2 := frz_b (cell_lt (c_R2_1)) (f_R2_1) hb
      have f_R3_2 := frz_b (cell_lt (c_R3_1)) (f_R3_1) hb
      have r_d_2 := Lib.hid (rdb_b (r_d_1.out) hb)
      have T_2 := Lib.hid (below_trans (T_1.out) hb)
      have z_2 : w1.heap.size ≤ w2.heap.size := (by have := hb.size; (try simp at this); omega)
      have ac_A0_2 := fun o => cell_b (c_A0_2) (below_alloc _ o)
      have bc_A0_2 := fun o o1 => cell_b (ac_A0_2 o) (below_alloc _ o1)
      have ac_A1_2 := fun o => cell_b (c_A1_2) (below_alloc _ o)
      have bc_A1_2 := fun o o1 => cell_b (ac_A1_2 o) (below_alloc _ o1)
      have ac_A2_2 := fun o => cell_b (c_A2_2) (below_alloc _ o)
      have bc_A2_2 := fun o o1 => cell_b (ac_A2_2 o) (below_alloc _ o1)
      have ac_A3_2 := fun o => cell_b (c_A3_2) (below_alloc _ o)
      have bc_A3_2 := fun o o1 => cell_b (ac_A3_2 o) (below_alloc _ o1)
      have ac_R0_2 := fun o => cell_b (c_R0_2) (below_alloc _ o)
      have bc_R0_2 := fun o o1 => cell_b (ac_R0_2 o) (below_alloc _ o1)
      have ac_R1_2 := fun o => cell_b (c_R1_2) (below_alloc _ o)
      have bc_R1_2 := fun o o1 => cell_b (ac_R1_2 o) (below_alloc _ o1)
      have ac_R2_2 := fun o => cell_b (c_R2_2) (below_alloc _ o)
      have bc_R2_2 := fun o o1 => cell_b (ac_R2_2 o) (below_alloc _ o1)
      have ac_R3_2 := fun o => cell_b (c_R3_2) (below_alloc _ o)
      have bc_R3_2 := fun o o1 => cell_b (ac_R3_2 o) (below_alloc _ o1)
      have af_R0_2 := fun o => frz_b (cell_lt (c_R0_2)) (f_R0_2) (below_alloc _ o)
      have bf_R0_2 := fun o o1 => frz_b (cell_lt (ac_R0_2 o)) (af_R0_2 o) (below_alloc _ o1)
      have af_R1_2 := fun o => frz_b (cell_lt (c_R1_2)) (f_R1_2) (below_alloc _ o)
      have bf_R1_2 := fun o o1 => frz_b (cell_lt (ac_R1_2 o)) (af_R1_2 o) (below_alloc _ o1)
      have af_R2_2 := fun o => frz_b (cell_lt (c_R2_2)) (f_R2_2) (below_alloc _ o)
      have bf_R2_2 := fun o o1 => frz_b (cell_lt (ac_R2_2 o)) (af_R2_2 o) (below_alloc _ o1)
      have af_R3_2 := fun o => frz_b (cell_lt (c_R3_2)) (f_R3_2) (below_alloc _ o)
      have bf_R3_2 := fun o o1 => frz_b (cell_lt (ac_R3_2 o)) (af_R3_2 o) (below_alloc _ o1)
      clear hb c_A0_1 c_A1_1 c_A2_1 c_A3_1 c_R0_1 c_R1_1 c_R2_1 c_R3_1 f_R0_1 f_R1_1 f_R2_1 f_R3_1 r_d_1 T_1 ac_A0_1 bc_A0_1 ac_A1_1 bc_A1_1 ac_A2_1 bc_A2_1 ac_A3_1 bc_A3_1 ac_R0_1 bc_R0_1 ac_R1_1 bc_R1_1 ac_R2_1 bc_R2_1 ac_R3_1 bc_R3_1 af_R0_1 bf_R0_1 af_R1_1 bf_R1_1 af_R2_1 bf_R2_1 af_R3_1 bf_R3_1
      go_wp2_with fail
      refine bodyPost_ret (v := .tuple #[.agg #[.int .i64 0, .int .i64 0, .int .i64 0, .slice none 0 0], .int .i64 0, .bool false]) (by simp [results, Try.results54, go_sem, c_R0_2, c_R1_2, c_R2_2, c_R3_2]) rfl ⟨0, 0, 0, [], none, 0, 0, false, rfl, by simp, rdb_nil _ _, (((((T_2.out).setCell (p := ⟨w.heap.size + 1, 0, none⟩) (by show w.heap.size ≤ w.heap.size + 1; omega) _).setCell (p := ⟨w.heap.size + 1, 1, none⟩) (by show w.heap.size ≤ w.heap.size + 1; omega) _).setCell (p := ⟨w.heap.size + 1, 2, none⟩) (by show w.heap.size ≤ w.heap.size + 1; omega) _).setCell (p := ⟨w.heap.size + 1, 3, none⟩) (by show w.heap.size ≤ w.heap.size + 1; omega) _)⟩
  · have HV : Hid (oval s o k xs = false) := Lib.hid (by simpa using hv)
    clear hv
    go_enter Try.func54, Try.ntmps54
    have T_0 : Hid (Below w.heap.size w w) := Lib.hid (Below.refl _ _)
    go_wp2_with fail
    (with_reducible refine (S_OnceValid_q _ s o k _ xs false (rdb_rd (rdb_b (rdb_b (r_d_0.out) (below_alloc _ _)) (below_alloc _ _))) (by omega) HV.out).mono ?_)
    rintro e w1 ⟨rfl, hb⟩
    have c_A0_1 := cell_b (p := ⟨w.heap.size, 0, none⟩) (v := .int .i64 s) (by first | (simp; done) | (simp [World.cell?_alloc_past, World.cell?_alloc_at]; done)) hb
    have c_A1_1 := cell_b (p := ⟨w.heap.size, 1, none⟩) (v := .int .i64 o) (by first | (simp; done) | (simp [World.cell?_alloc_past, World.cell?_alloc_at]; done)) hb
    have c_A2_1 := cell_b (p := ⟨w.heap.size, 2, none⟩) (v := .int .i64 k) (by first | (simp; done) | (simp [World.cell?_alloc_past, World.cell?_alloc_at]; done)) hb
    have c_A3_1 := cell_b (p := ⟨w.heap.size, 3, none⟩) (v := .slice a xs.length cap) (by first | (simp; done) | (simp [World.cell?_alloc_past, World.cell?_alloc_at]; done)) hb
    have c_R0_1 := cell_b (p := ⟨w.heap.size + 1, 0, none⟩) (v := .int .i64 0) (by first | (simp; done) | (simp [World.cell?_alloc_past, World.cell?_alloc_at]; done)) hb
    have f_R0_1 := frz_b (p := ⟨w.heap.size + 1, 0, none⟩) (by first | omega | (simp; done) | (simp; omega)) (show _ = false by first | (simp; done) | (simp [World.frozen?_alloc_past, World.frozen?_alloc_at]; done)) hb
    have c_R1_1 := cell_b (p := ⟨w.heap.size + 1, 1, none⟩) (v := .int .i64 0) (by first | (simp; done) | (simp [World.cell?_alloc_past, World.cell?_alloc_at]; done)) hb
    have f_R1_1 := frz_b (p := ⟨w.heap.size + 1, 1, none⟩) (by first | omega | (simp; done) | (simp; omega)) (show _ = false by first | (simp; done) | (simp [World.frozen?_alloc_past, World.frozen?_alloc_at]; done)) hb
    have c_R2_1 := cell_b (p := ⟨w.heap.size + 1, 2, none⟩) (v := .int .i64 0) (by first | (simp; done) | (simp [World.cell?_alloc_past, World.cell?_alloc_at]; done)) hb
    have f_R2_1 := frz_b (p := ⟨w.heap.size + 1, 2, none⟩) (by first | omega | (simp; done) | (simp; omega)) (show _ = false by first | (simp; done) | (simp [World.frozen?_alloc_past, World.frozen?_alloc_at]; done)) hb
    have c_R3_1 := cell_b (p := ⟨w.heap.size + 1, 3, none⟩) (v := .slice none 0 0) (by first | (simp; done) | (simp [World.cell?_alloc_past, World.cell?_alloc_at]; done)) hb
    have f_R3_1 := frz_b (p := ⟨w.heap.size + 1, 3, none⟩) (by first | omega | (simp; done) | (simp; omega)) (show _ = false by first | (simp; done) | (simp [World.frozen?_alloc_past, World.frozen?_alloc_at]; done)) hb
    have r_d_1 := Lib.hid (rdb_b (rdb_b (rdb_b (r_d_0.out) (below_alloc _ _)) (below_alloc _ _)) hb)
    have T_1 := Lib.hid (below_trans (below_trans (below_trans (T_0.out) (below_alloc _ _)) (below_alloc _ _)) hb)
    have z_1 : w.heap.size + 2 ≤ w1.heap.size := (by have := hb.size; (try simp at this); omega)
    have ac_A0_1 := fun o => cell_b (c_A0_1) (below_alloc _ o)
    have bc_A0_1 := fun o o1 => cell_b (ac_A0_1 o) (below_alloc _ o1)
    have ac_A1_1 := fun o => cell_b (c_A1_1) (below_alloc _ o)
    have bc_A1_1 := fun o o1 => cell_b (ac_A1_1 o) (below_alloc _ o1)
    have ac_A2_1 := fun o => cell_b (c_A2_1) (below_alloc _ o)
    have bc_A2_1 := fun o o1 => cell_b (ac_A2_1 o) (below_alloc _ o1)
    have ac_A3_1 := fun o => cell_b (c_A3_1) (below_alloc _ o)
    have bc_A3_1 := fun o o1 => cell_b (ac_A3_1 o) (below_alloc _ o1)
    have ac_R0_1 := fun o => cell_b (c_R0_1) (below_alloc _ o)
    have bc_R0_1 := fun o o1 => cell_b (ac_R0_1 o) (below_alloc _ o1)
    have ac_R1_1 := fun o => cell_b (c_R1_1) (below_alloc _ o)
    have bc_R1_1 := fun o o1 => cell_b (ac_R1_1 o) (below_alloc _ o1)
    have ac_R2_1 := fun o => cell_b (c_R2_1) (below_alloc _ o)
    have bc_R2_1 := fun o o1 => cell_b (ac_R2_1 o) (below_alloc _ o1)
    have ac_R3_1 := fun o => cell_b (c_R3_1) (below_alloc _ o)
    have bc_R3_1 := fun o o1 => cell_b (ac_R3_1 o) (below_alloc _ o1)
    have af_R0_1 := fun o => frz_b (cell_lt (c_R0_1)) (f_R0_1) (below_alloc _ o)
    have bf_R0_1 := fun o o1 => frz_b (cell_lt (ac_R0_1 o)) (af_R0_1 o) (below_alloc _ o1)
    have af_R1_1 := fun o => frz_b (cell_lt (c_R1_1)) (f_R1_1) (below_alloc _ o)
    have bf_R1_1 := fun o o1 => frz_b (cell_lt (ac_R1_1 o)) (af_R1_1 o) (below_alloc _ o1)
    have af_R2_1 := fun o => frz_b (cell_lt (c_R2_1)) (f_R2_1) (below_alloc _ o)
    have bf_R2_1 := fun o o1 => frz_b (cell_lt (ac_R2_1 o)) (af_R2_1 o) (below_alloc _ o1)
    have af_R3_1 := fun o => frz_b (cell_lt (c_R3_1)) (f_R3_1) (below_alloc _ o)
    have bf_R3_1 := fun o o1 => frz_b (cell_lt (ac_R3_1 o)) (af_R3_1 o) (below_alloc _ o1)
    clear hb r_d_0 T_0
    go_wp2_with fail
    refine bodyPost_ret (v := .tuple #[.agg #[.int .i64 0, .int .i64 0, .int .i64 0, .slice none 0 0], .int .i64 0, .bool false]) (by simp [results, Try.results54, go_sem, c_R0_1, c_R1_1, c_R2_1, c_R3_1]) rfl ⟨0, 0, 0, [], none, 0, 0, false, rfl, by simp, rdb_nil _ _, (((((T_1.out).setCell (p := ⟨w.heap.size + 1, 0, none⟩) (by show w.heap.size ≤ w.heap.size + 1; omega) _).setCell (p := ⟨w.heap.size + 1, 1, none⟩) (by show w.heap.size ≤ w.heap.size + 1; omega) _).setCell (p := ⟨w.heap.size + 1, 2, none⟩) (by show w.heap.size ≤ w.heap.size + 1; omega) _).setCell (p := ⟨w.heap.size + 1, 3, none⟩) (by show w.heap.size ≤ w.heap.size + 1; omega) _)⟩
end Go.Proofs.Ytgdhbhgkfcgjdaa
