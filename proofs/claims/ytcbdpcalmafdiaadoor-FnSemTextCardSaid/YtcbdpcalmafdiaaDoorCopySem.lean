/- What l1Copy and NewSem hand back. -/
import Derived.Test.YtcbdpcalmafdiaaDoorRowDraw
import Derived.Deep.RegionHeld3
import Derived.Deep.RegionLaw
import Derived.Deep.DrawnRows
namespace Go.Proofs.YtcbdpcalmafdiaaDoor
open Go.RowKit
attribute [local go_sem ↓] Go.wp_at_zero Go.wp_at_succ

set_option maxHeartbeats 1000000 in
set_option maxRecDepth 100000 in
theorem S_l1Copy (w : World) (p q : Int) (v : Value) (xs : List (Int × Int)) (hv : RdWB w 0 v xs) (hl : xs.length ≤ 1000) :
    Calls Tryd.prog 41 #[.agg #[.int .i64 p, .int .i64 q, v]] w fun e w' => ∃ a cap, e = .returned (.agg #[.int .i64 p, .int .i64 q, .slice a xs.length cap]) ∧ OwP w' w.heap.size (.slice a xs.length cap) xs ∧ Below w.heap.size w w' := by
  obtain ⟨j0, hj, hy0, hy1, hy2⟩ := info_parts infoW
  have r_d_0 := Lib.hid hv
  have lr_d := Lib.hid (rdxb_lo hv)
  have hr_d := Lib.hid (rdxb_hi hv)
  obtain ⟨⟨a, cap, rfl, hcap, hnc, hlen, hc⟩, hb⟩ := hv
  clear hnc hc hb hlen
  go_enter Tryd.func41, Tryd.ntmps41
  have T_0 : Hid (Below w.heap.size w w) := Lib.hid (Below.refl _ _)
  go_wp2_with fail
  have c_A0_5 : (((w).alloc (.cells #[.int .i64 p, .int .i64 q, .slice a xs.length cap] 29)).alloc (.cells #[.int .i64 0, .int .i64 0, .slice none 0 0] 29)).cell? ⟨w.heap.size, 0, none⟩ = some (.int .i64 p) := by simp
  have c_A1_5 : (((w).alloc (.cells #[.int .i64 p, .int .i64 q, .slice a xs.length cap] 29)).alloc (.cells #[.int .i64 0, .int .i64 0, .slice none 0 0] 29)).cell? ⟨w.heap.size, 1, none⟩ = some (.int .i64 q) := by simp
  have c_A2_5 : (((w).alloc (.cells #[.int .i64 p, .int .i64 q, .slice a xs.length cap] 29)).alloc (.cells #[.int .i64 0, .int .i64 0, .slice none 0 0] 29)).cell? ⟨w.heap.size, 2, none⟩ = some (.slice a xs.length cap) := by simp
  have c_R0_5 : (((w).alloc (.cells #[.int .i64 p, .int .i64 q, .slice a xs.length cap] 29)).alloc (.cells #[.int .i64 0, .int .i64 0, .slice none 0 0] 29)).cell? ⟨w.heap.size + 1, 0, none⟩ = some (.int .i64 0) := by simp
  have f_R0_5 : (((w).alloc (.cells #[.int .i64 p, .int .i64 q, .slice a xs.length cap] 29)).alloc (.cells #[.int .i64 0, .int .i64 0, .slice none 0 0] 29)).frozen? ⟨w.heap.size + 1, 0, none⟩ = false := by simp
  have c_R1_5 : (((w).alloc (.cells #[.int .i64 p, .int .i64 q, .slice a xs.length cap] 29)).alloc (.cells #[.int .i64 0, .int .i64 0, .slice none 0 0] 29)).cell? ⟨w.heap.size + 1, 1, none⟩ = some (.int .i64 0) := by simp
  have f_R1_5 : (((w).alloc (.cells #[.int .i64 p, .int .i64 q, .slice a xs.length cap] 29)).alloc (.cells #[.int .i64 0, .int .i64 0, .slice none 0 0] 29)).frozen? ⟨w.heap.size + 1, 1, none⟩ = false := by simp
  have c_R2_5 : (((w).alloc (.cells #[.int .i64 p, .int .i64 q, .slice a xs.length cap] 29)).alloc (.cells #[.int .i64 0, .int .i64 0, .slice none 0 0] 29)).cell? ⟨w.heap.size + 1, 2, none⟩ = some (.slice none 0 0) := by simp
  have f_R2_5 : (((w).alloc (.cells #[.int .i64 p, .int .i64 q, .slice a xs.length cap] 29)).alloc (.cells #[.int .i64 0, .int .i64 0, .slice none 0 0] 29)).frozen? ⟨w.heap.size + 1, 2, none⟩ = false := by simp
  have r_d_5 : Hid (RdWB (((w).alloc (.cells #[.int .i64 p, .int .i64 q, .slice a xs.length cap] 29)).alloc (.cells #[.int .i64 0, .int .i64 0, .slice none 0 0] 29)) (0) (.slice a xs.length cap) (xs)) := Lib.hid ((rdxb_b (rdxb_b (r_d_0.out) (below_alloc _ _)) (below_alloc _ _)))
  have T_5 : Hid (Below w.heap.size w (((w).alloc (.cells #[.int .i64 p, .int .i64 q, .slice a xs.length cap] 29)).alloc (.cells #[.int .i64 0, .int .i64 0, .slice none 0 0] 29))) := Lib.hid (below_trans (below_trans (T_0.out) (below_alloc _ _)) (below_alloc _ _))
  have z_5 : w.heap.size + 2 ≤ (((w).alloc (.cells #[.int .i64 p, .int .i64 q, .slice a xs.length cap] 29)).alloc (.cells #[.int .i64 0, .int .i64 0, .slice none 0 0] 29)).heap.size := (by simp)
  clear r_d_0 T_0
  generalize ((w).alloc (.cells #[.int .i64 p, .int .i64 q, .slice a xs.length cap] 29)).alloc (.cells #[.int .i64 0, .int .i64 0, .slice none 0 0] 29) = w5 at *
  have ac_A0_5 := fun o => cell_b (c_A0_5) (below_alloc _ o)
  have bc_A0_5 := fun o o1 => cell_b (ac_A0_5 o) (below_alloc _ o1)
  have ac_A1_5 := fun o => cell_b (c_A1_5) (below_alloc _ o)
  have bc_A1_5 := fun o o1 => cell_b (ac_A1_5 o) (below_alloc _ o1)
  have ac_A2_5 := fun o => cell_b (c_A2_5) (below_alloc _ o)
  have bc_A2_5 := fun o o1 => cell_b (ac_A2_5 o) (below_alloc _ o1)
  have ac_R0_5 := fun o => cell_b (c_R0_5) (below_alloc _ o)
  have bc_R0_5 := fun o o1 => cell_b (ac_R0_5 o) (below_alloc _ o1)
  have ac_R1_5 := fun o => cell_b (c_R1_5) (below_alloc _ o)
  have bc_R1_5 := fun o o1 => cell_b (ac_R1_5 o) (below_alloc _ o1)
  have ac_R2_5 := fun o => cell_b (c_R2_5) (below_alloc _ o)
  have bc_R2_5 := fun o o1 => cell_b (ac_R2_5 o) (below_alloc _ o1)
  have af_R0_5 := fun o => frz_b (cell_lt (c_R0_5)) (f_R0_5) (below_alloc _ o)
  have bf_R0_5 := fun o o1 => frz_b (cell_lt (ac_R0_5 o)) (af_R0_5 o) (below_alloc _ o1)
  have af_R1_5 := fun o => frz_b (cell_lt (c_R1_5)) (f_R1_5) (below_alloc _ o)
  have bf_R1_5 := fun o o1 => frz_b (cell_lt (ac_R1_5 o)) (af_R1_5 o) (below_alloc _ o1)
  have af_R2_5 := fun o => frz_b (cell_lt (c_R2_5)) (f_R2_5) (below_alloc _ o)
  have bf_R2_5 := fun o o1 => frz_b (cell_lt (ac_R2_5 o)) (af_R2_5 o) (below_alloc _ o1)
  go_region_held3 (fun w' => w'.cell? ⟨w.heap.size, 0, none⟩ = some (.int .i64 p) ∧ w'.cell? ⟨w.heap.size, 1, none⟩ = some (.int .i64 q) ∧ w'.cell? ⟨w.heap.size, 2, none⟩ = some (.slice a xs.length cap)) (first | with_reducible exact ⟨c_A0_5, c_A1_5, c_A2_5⟩ | with_reducible exact ⟨cell_b (c_A0_5) (drew_below _), cell_b (c_A1_5) (drew_below _), cell_b (c_A2_5) (drew_below _)⟩ | with_reducible exact ⟨cell_b (c_A0_5) (below_alloc _ _), cell_b (c_A1_5) (below_alloc _ _), cell_b (c_A2_5) (below_alloc _ _)⟩ | with_reducible exact ⟨cell_b (cell_b (c_A0_5) (below_alloc _ _)) (drew_below _), cell_b (cell_b (c_A1_5) (below_alloc _ _)) (drew_below _), cell_b (cell_b (c_A2_5) (below_alloc _ _)) (drew_below _)⟩ | with_reducible exact ⟨c_A0_6, c_A1_6, c_A2_6⟩ | with_reducible exact ⟨cell_set (p := ⟨w.heap.size + 1, 0, none⟩) (c_A0_6) (ne_blk (by omega)), cell_set (p := ⟨w.heap.size + 1, 0, none⟩) (c_A1_6) (ne_blk (by omega)), cell_set (p := ⟨w.heap.size + 1, 0, none⟩) (c_A2_6) (ne_blk (by omega))⟩ | with_reducible exact ⟨cell_set (p := ⟨w.heap.size + 1, 1, none⟩) (cell_set (p := ⟨w.heap.size + 1, 0, none⟩) (c_A0_6) (ne_blk (by omega))) (ne_blk (by omega)), cell_set (p := ⟨w.heap.size + 1, 1, none⟩) (cell_set (p := ⟨w.heap.size + 1, 0, none⟩) (c_A1_6) (ne_blk (by omega))) (ne_blk (by omega)), cell_set (p := ⟨w.heap.size + 1, 1, none⟩) (cell_set (p := ⟨w.heap.size + 1, 0, none⟩) (c_A2_6) (ne_blk (by omega))) (ne_blk (by omega))⟩ | with_reducible exact ⟨cell_set (p := ⟨w.heap.size + 1, 2, none⟩) (cell_set (p := ⟨w.heap.size + 1, 1, none⟩) (cell_set (p := ⟨w.heap.size + 1, 0, none⟩) (c_A0_6) (ne_blk (by omega))) (ne_blk (by omega))) (ne_blk (by omega)), cell_set (p := ⟨w.heap.size + 1, 2, none⟩) (cell_set (p := ⟨w.heap.size + 1, 1, none⟩) (cell_set (p := ⟨w.heap.size + 1, 0, none⟩) (c_A1_6) (ne_blk (by omega))) (ne_blk (by omega))) (ne_blk (by omega)), cell_set (p := ⟨w.heap.size + 1, 2, none⟩) (cell_set (p := ⟨w.heap.size + 1, 1, none⟩) (cell_set (p := ⟨w.heap.size + 1, 0, none⟩) (c_A2_6) (ne_blk (by omega))) (ne_blk (by omega))) (ne_blk (by omega))⟩ | go_keep)
    (first | (refine step_append_rdx (w := ((w5).alloc (.cells #[] 42)).drew) (by rfl) _ _ 27 rfl (w5.heap.size) 42 2 16 (.agg #[.int .i64 0, .int .i64 0]) j0 Tryd.underlying27 hj hy0 hy1 hy2 rfl (by decide) (.slice (some ⟨w5.heap.size, 0, none⟩) 0 0) (0) ([]) rfl (own_below (owp_made_at (w5) (w5.heap.size) (w5.heap.size) (by first | rfl | simp) (Nat.le_refl _)) (drew_below _)) _ _ _ (prs (xs)) rfl (rdxb_x (rdxb_b (rdxb_b (r_d_5.out) (below_alloc _ _)) (drew_below _))) prs_one (by first | (unfold maxLen; omega) | (unfold maxLen; simp; omega)) (by first | omega | (simp; omega)) (by first | omega | (simp; done) | (simp; omega)) ?_; intro v6 w6 hown hgr hloc; have ho : w6.ownsRow (w5.heap.size) 42 2 v6 ((xs).length) (prs (xs)) := (by rw [Nat.zero_add, List.nil_append] at hown; exact hown); obtain ⟨a1, cap1, hv⟩ := own_shape ho; subst hv; have iv_e : Hid (∀ g, (Value.slice a1 ((xs).length) cap1).ownBlock = some g → (w5.heap.size ≤ g ∧ g < w5.heap.size + 1) ∨ (w5.heap.size + 1 ≤ g ∧ g < w6.heap.size)) := Lib.hid (fun g h => by have h9 := hgr.size; have h7 := own_hi ho g h; rcases hloc with h8 | h8 <;> rw [h8] at h <;> (simp only [Value.ownBlock, Option.some.injEq] at h; (try simp at h9); (try simp at h); omega)); have c_A0_6 := cell_gr (cell_b (cell_b (c_A0_5) (below_alloc _ _)) (drew_below _)) hgr (fun g h => by simp only [Value.ownBlock, Option.some.injEq] at h; show w.heap.size ≠ g; omega); have c_A1_6 := cell_gr (cell_b (cell_b (c_A1_5) (below_alloc _ _)) (drew_below _)) hgr (fun g h => by simp only [Value.ownBlock, Option.some.injEq] at h; show w.heap.size ≠ g; omega); have c_A2_6 := cell_gr (cell_b (cell_b (c_A2_5) (below_alloc _ _)) (drew_below _)) hgr (fun g h => by simp only [Value.ownBlock, Option.some.injEq] at h; show w.heap.size ≠ g; omega); have c_R0_6 := cell_gr (cell_b (cell_b (c_R0_5) (below_alloc _ _)) (drew_below _)) hgr (fun g h => by simp only [Value.ownBlock, Option.some.injEq] at h; show w.heap.size + 1 ≠ g; omega); have c_R1_6 := cell_gr (cell_b (cell_b (c_R1_5) (below_alloc _ _)) (drew_below _)) hgr (fun g h => by simp only [Value.ownBlock, Option.some.injEq] at h; show w.heap.size + 1 ≠ g; omega); have c_R2_6 := cell_gr (cell_b (cell_b (c_R2_5) (below_alloc _ _)) (drew_below _)) hgr (fun g h => by simp only [Value.ownBlock, Option.some.injEq] at h; show w.heap.size + 1 ≠ g; omega); have f_R0_6 := (frz_gr (p := ⟨w.heap.size + 1, 0, none⟩) (cell_lt (cell_b (cell_b (c_R0_5) (below_alloc _ _)) (drew_below _))) hgr (fun g h => by simp only [Value.ownBlock, Option.some.injEq] at h; show w.heap.size + 1 ≠ g; omega)).trans (frz_b (cell_lt (cell_b (c_R0_5) (below_alloc _ _))) (frz_b (cell_lt (c_R0_5)) (f_R0_5) (below_alloc _ _)) (drew_below _)); have f_R1_6 := (frz_gr (p := ⟨w.heap.size + 1, 1, none⟩) (cell_lt (cell_b (cell_b (c_R1_5) (below_alloc _ _)) (drew_below _))) hgr (fun g h => by simp only [Value.ownBlock, Option.some.injEq] at h; show w.heap.size + 1 ≠ g; omega)).trans (frz_b (cell_lt (cell_b (c_R1_5) (below_alloc _ _))) (frz_b (cell_lt (c_R1_5)) (f_R1_5) (below_alloc _ _)) (drew_below _)); have f_R2_6 := (frz_gr (p := ⟨w.heap.size + 1, 2, none⟩) (cell_lt (cell_b (cell_b (c_R2_5) (below_alloc _ _)) (drew_below _))) hgr (fun g h => by simp only [Value.ownBlock, Option.some.injEq] at h; show w.heap.size + 1 ≠ g; omega)).trans (frz_b (cell_lt (cell_b (c_R2_5) (below_alloc _ _))) (frz_b (cell_lt (c_R2_5)) (f_R2_5) (below_alloc _ _)) (drew_below _)); have r_d_6 := Lib.hid (rdxb_gr (rdxb_b (rdxb_b (r_d_5.out) (below_alloc _ _)) (drew_below _)) hgr (fun g g' h h' => by simp only [Value.ownBlock, Option.some.injEq] at h; have h3 := lr_d.out g' h'; have h4 := hr_d.out g' h'; omega)); have T_6 := Lib.hid (below_gr (below_trans (below_trans (T_5.out) (below_alloc _ _)) (drew_below _)) (by first | omega | (simp; done) | (simp; omega)) hgr (fun g h => by simp only [Value.ownBlock, Option.some.injEq] at h; omega)); have z_6 : w5.heap.size + 1 ≤ w6.heap.size := (by have := hgr.size; (try simp at this); omega); have o_e_6 := Lib.hid ho; have lo_e := Lib.hid (own_lo o_e_6.out); have hi_e := Lib.hid (own_hi o_e_6.out); have ac_A0_6 := fun o => cell_b (c_A0_6) (below_alloc _ o); have bc_A0_6 := fun o o1 => cell_b (ac_A0_6 o) (below_alloc _ o1); have ac_A1_6 := fun o => cell_b (c_A1_6) (below_alloc _ o); have bc_A1_6 := fun o o1 => cell_b (ac_A1_6 o) (below_alloc _ o1); have ac_A2_6 := fun o => cell_b (c_A2_6) (below_alloc _ o); have bc_A2_6 := fun o o1 => cell_b (ac_A2_6 o) (below_alloc _ o1); have ac_R0_6 := fun o => cell_b (c_R0_6) (below_alloc _ o); have bc_R0_6 := fun o o1 => cell_b (ac_R0_6 o) (below_alloc _ o1); have ac_R1_6 := fun o => cell_b (c_R1_6) (below_alloc _ o); have bc_R1_6 := fun o o1 => cell_b (ac_R1_6 o) (below_alloc _ o1); have ac_R2_6 := fun o => cell_b (c_R2_6) (below_alloc _ o); have bc_R2_6 := fun o o1 => cell_b (ac_R2_6 o) (below_alloc _ o1); have af_R0_6 := fun o => frz_b (cell_lt (c_R0_6)) (f_R0_6) (below_alloc _ o); have bf_R0_6 := fun o o1 => frz_b (cell_lt (ac_R0_6 o)) (af_R0_6 o) (below_alloc _ o1); have af_R1_6 := fun o => frz_b (cell_lt (c_R1_6)) (f_R1_6) (below_alloc _ o); have bf_R1_6 := fun o o1 => frz_b (cell_lt (ac_R1_6 o)) (af_R1_6 o) (below_alloc _ o1); have af_R2_6 := fun o => frz_b (cell_lt (c_R2_6)) (f_R2_6) (below_alloc _ o); have bf_R2_6 := fun o o1 => frz_b (cell_lt (ac_R2_6 o)) (af_R2_6 o) (below_alloc _ o1); clear hgr c_A0_5 c_A1_5 c_A2_5 c_R0_5 c_R1_5 c_R2_5 f_R0_5 f_R1_5 f_R2_5 r_d_5 T_5 ac_A0_5 bc_A0_5 ac_A1_5 bc_A1_5 ac_A2_5 bc_A2_5 ac_R0_5 bc_R0_5 ac_R1_5 bc_R1_5 ac_R2_5 bc_R2_5 af_R0_5 bf_R0_5 af_R1_5 bf_R1_5 af_R2_5 bf_R2_5 hown ho hloc))
  go_wp2_with fail
  refine bodyPost_ret (v := .agg #[.int .i64 p, .int .i64 q, .slice a1 (xs.length) cap1]) (by simp [results, Tryd.results41, go_sem, c_R0_6, c_R1_6, c_R2_6]) rfl ⟨a1, cap1, rfl, own_base (own_set (p := ⟨w.heap.size + 1, 2, none⟩) (own_set (p := ⟨w.heap.size + 1, 1, none⟩) (own_set (p := ⟨w.heap.size + 1, 0, none⟩) (o_e_6.out) (fun g h => by have h1 := lo_e.out g h; have h2 := hi_e.out g h; have h5 := iv_e.out g h; show g ≠ w.heap.size + 1; omega) _) (fun g h => by have h1 := lo_e.out g h; have h2 := hi_e.out g h; have h5 := iv_e.out g h; show g ≠ w.heap.size + 1; omega) _) (fun g h => by have h1 := lo_e.out g h; have h2 := hi_e.out g h; have h5 := iv_e.out g h; show g ≠ w.heap.size + 1; omega) _) (by omega), ((((T_6.out).setCell (p := ⟨w.heap.size + 1, 0, none⟩) (by show w.heap.size ≤ w.heap.size + 1; omega) _).setCell (p := ⟨w.heap.size + 1, 1, none⟩) (by show w.heap.size ≤ w.heap.size + 1; omega) _).setCell (p := ⟨w.heap.size + 1, 2, none⟩) (by show w.heap.size ≤ w.heap.size + 1; omega) _)⟩
/-- What NewSem hands back: some semaphore with nobody in its queue. -/
def NewP (w : World) (e : Ending) (w' : World) : Prop :=
  ∃ (p q : Int) (a : Option Addr) (ok : Bool), e = .returned (.tuple #[.agg #[.int .i64 p, .int .i64 q, .slice a 0 0], .bool ok]) ∧ RdWB w' w.heap.size (.slice a 0 0) [] ∧ Below w.heap.size w w'
theorem rdxb_made (w : World) (B g T : Nat) (hg : g = w.heap.size) (hB : B ≤ g) : RdWB (w.alloc (.cells #[] T)) B (.slice (some ⟨g, 0, none⟩) 0 0) [] := by
  subst hg
  exact ⟨⟨_, _, rfl, Nat.le_refl _, by simp, rfl, .inl rfl⟩, fun g hg => by simp [Value.ownBlock] at hg; subst hg; simp; exact hB⟩
set_option maxHeartbeats 1000000 in
theorem S_NewSem (w : World) (n : Int) : Calls Tryd.prog 37 #[.int .i64 n] w (NewP w) := by
  by_cases h1 : n < 1
  · go_enter Tryd.func37, Tryd.ntmps37
    go_wp2
    refine bodyPost_ret (v := .tuple #[.agg #[.int .i64 0, .int .i64 0, .slice none 0 0], .bool false]) (by simp [results, Tryd.results37, go_sem]) rfl ⟨0, 0, none, false, rfl, rdxb_nil _ _ _, ?_⟩
    exact below_alloc _ _
  by_cases h2 : 9 < n
  · have h3 : 1 ≤ n := by omega
    clear h1
    go_enter Tryd.func37, Tryd.ntmps37
    go_wp2
    refine bodyPost_ret (v := .tuple #[.agg #[.int .i64 0, .int .i64 0, .slice none 0 0], .bool false]) (by simp [results, Tryd.results37, go_sem]) rfl ⟨0, 0, none, false, rfl, rdxb_nil _ _ _, ?_⟩
    exact below_alloc _ _
  · have h3 : 1 ≤ n := by omega
    have h4 : n ≤ 9 := by omega
    clear h1 h2
    go_enter Tryd.func37, Tryd.ntmps37
    go_wp2
    refine bodyPost_ret (v := .tuple #[.agg #[.int .i64 n, .int .i64 n, .slice (some ⟨w.heap.size + 1, 0, none⟩) 0 0], .bool true]) (by simp [results, Tryd.results37, go_sem]) rfl ⟨n, n, _, true, rfl, ?_, ?_⟩
    · exact rdxb_made _ _ _ _ (by simp) (by simp)
    · exact below_trans (below_alloc _ _) (below_alloc _ _)
end Go.Proofs.YtcbdpcalmafdiaaDoor
