/- What the draws of groups hand back: some value that can be read. -/
import Derived.Test.YtgdhbhgkfcgjdaaGuard
import Derived.Test.YtgdhbhgkfcgjdaaDrawGroup
import Derived.Deep.RegionHeld3
import Derived.Deep.RegionLaw
import Derived.Deep.DrawnRows
namespace Go.Proofs.Ytgdhbhgkfcgjdaa
open Go.RowKit
attribute [local go_sem ↓] Go.wp_at_zero Go.wp_at_succ


/-- A group and a number, drawn from a code. -/
def CodeGroupN (w : World) (e : Ending) (w' : World) : Prop :=
  ∃ (c : Int) (xs : List Int) (t : Int) (a : Option Addr) (cap : Nat), e = .returned (.tuple #[.agg #[.int .i64 c, .slice a xs.length cap], .int .i64 t]) ∧ xs.length ≤ 12 ∧ RdB w' w.heap.size (.slice a xs.length cap) xs ∧ Below w.heap.size w w'
/-- Two groups, drawn from a code. -/
def CodeGroup2 (w : World) (e : Ending) (w' : World) : Prop :=
  ∃ (c : Int) (xs : List Int) (a : Option Addr) (cap : Nat) (d : Int) (ys : List Int) (b : Option Addr) (cap' : Nat), e = .returned (.tuple #[.agg #[.int .i64 c, .slice a xs.length cap], .agg #[.int .i64 d, .slice b ys.length cap']]) ∧ xs.length ≤ 12 ∧ ys.length ≤ 12 ∧
    RdB w' w.heap.size (.slice a xs.length cap) xs ∧ RdB w' w.heap.size (.slice b ys.length cap') ys ∧ Below w.heap.size w w'
set_option maxHeartbeats 4000000 in
set_option maxRecDepth 100000 in
theorem S_DrawWaitGroup (w : World) (v : Value) (n : Nat) (hv : RdY w v n) (hn : n ≤ 4294967296) : Calls Try.prog 17 #[v] w (CodeGroupN w) := by
  go_enter Try.func17, Try.ntmps17
  have T_0 : Hid (Below w.heap.size w w) := Lib.hid (Below.refl _ _)
  go_wp2_with fail
  (with_reducible refine (S_l13Open _ _ n (rdy_b hv (below_alloc _ _)) hn).mono ?_)
  rintro e w1 ⟨q, hq, rfl, hr1, hb⟩
  (try simp at hq)
  subst hq
  have zr := rdr_lt hr1
  have c_R0_1 := cell_b (p := ⟨w.heap.size, 0, none⟩) (v := .int .i64 0) (by simp) hb
  have f_R0_1 := frz_b (p := ⟨w.heap.size, 0, none⟩) (by first | omega | (simp; done) | (simp; omega)) (show _ = false by simp) hb
  have c_R1_1 := cell_b (p := ⟨w.heap.size, 1, none⟩) (v := .slice none 0 0) (by simp) hb
  have f_R1_1 := frz_b (p := ⟨w.heap.size, 1, none⟩) (by first | omega | (simp; done) | (simp; omega)) (show _ = false by simp) hb
  have R_1 := Lib.hid hr1
  have T_1 := Lib.hid (below_trans (below_trans (T_0.out) (below_alloc _ _)) hb)
  have z_1 : w.heap.size + 1 ≤ w1.heap.size := (by have := hb.size; (try simp at this); omega)
  have ac_R0_1 := fun o => cell_b (c_R0_1) (below_alloc _ o)
  have bc_R0_1 := fun o o1 => cell_b (ac_R0_1 o) (below_alloc _ o1)
  have dc_R0_1 := fun o o1 o2 => cell_b (bc_R0_1 o o1) (below_alloc _ o2)
  have ac_R1_1 := fun o => cell_b (c_R1_1) (below_alloc _ o)
  have bc_R1_1 := fun o o1 => cell_b (ac_R1_1 o) (below_alloc _ o1)
  have dc_R1_1 := fun o o1 o2 => cell_b (bc_R1_1 o o1) (below_alloc _ o2)
  have af_R0_1 := fun o => frz_b (cell_lt (c_R0_1)) (f_R0_1) (below_alloc _ o)
  have bf_R0_1 := fun o o1 => frz_b (cell_lt (ac_R0_1 o)) (af_R0_1 o) (below_alloc _ o1)
  have df_R0_1 := fun o o1 o2 => frz_b (cell_lt (bc_R0_1 o o1)) (bf_R0_1 o o1) (below_alloc _ o2)
  have af_R1_1 := fun o => frz_b (cell_lt (c_R1_1)) (f_R1_1) (below_alloc _ o)
  have bf_R1_1 := fun o o1 => frz_b (cell_lt (ac_R1_1 o)) (af_R1_1 o) (below_alloc _ o1)
  have df_R1_1 := fun o o1 o2 => frz_b (cell_lt (bc_R1_1 o o1)) (bf_R1_1 o o1) (below_alloc _ o2)
  clear hb hr1 T_0
  go_wp2_with fail
  (with_reducible refine (S_l2DrawGroup _ _ 0 (R_1.out) (by omega)).mono ?_)
  rintro e w2 ⟨c, xs, a, cap, rfl, hx, hd, hr1, hg⟩
  have c_R0_2 := cell_gs (c_R0_1) hg (by show w.heap.size ≠ (w.heap.size + 1); omega)
  have c_R1_2 := cell_gs (c_R1_1) hg (by show w.heap.size ≠ (w.heap.size + 1); omega)
  have f_R0_2 := frz_gs (p := ⟨w.heap.size, 0, none⟩) (cell_lt (c_R0_1)) (f_R0_1) hg (by show w.heap.size ≠ (w.heap.size + 1); omega)
  have f_R1_2 := frz_gs (p := ⟨w.heap.size, 1, none⟩) (cell_lt (c_R1_1)) (f_R1_1) hg (by show w.heap.size ≠ (w.heap.size + 1); omega)
  have R_2 := Lib.hid hr1
  have T_2 := Lib.hid (gs_below (T_1.out) hg (by first | omega | (simp; done) | (simp; omega)) (by omega))
  have z_2 : w1.heap.size ≤ w2.heap.size := (by have := hg.size; (try simp at this); omega)
  have r_d_2 := Lib.hid (rdb_mono hd (show w1.heap.size ≤ _ by first | omega | (simp; done) | (simp; omega)))
  have lr_d := Lib.hid (rdb_lo r_d_2.out)
  have hr_d := Lib.hid (rdb_hi r_d_2.out)
  have ac_R0_2 := fun o => cell_b (c_R0_2) (below_alloc _ o)
  have bc_R0_2 := fun o o1 => cell_b (ac_R0_2 o) (below_alloc _ o1)
  have dc_R0_2 := fun o o1 o2 => cell_b (bc_R0_2 o o1) (below_alloc _ o2)
  have ac_R1_2 := fun o => cell_b (c_R1_2) (below_alloc _ o)
  have bc_R1_2 := fun o o1 => cell_b (ac_R1_2 o) (below_alloc _ o1)
  have dc_R1_2 := fun o o1 o2 => cell_b (bc_R1_2 o o1) (below_alloc _ o2)
  have af_R0_2 := fun o => frz_b (cell_lt (c_R0_2)) (f_R0_2) (below_alloc _ o)
  have bf_R0_2 := fun o o1 => frz_b (cell_lt (ac_R0_2 o)) (af_R0_2 o) (below_alloc _ o1)
  have df_R0_2 := fun o o1 o2 => frz_b (cell_lt (bc_R0_2 o o1)) (bf_R0_2 o o1) (below_alloc _ o2)
  have af_R1_2 := fun o => frz_b (cell_lt (c_R1_2)) (f_R1_2) (below_alloc _ o)
  have bf_R1_2 := fun o o1 => frz_b (cell_lt (ac_R1_2 o)) (af_R1_2 o) (below_alloc _ o1)
  have df_R1_2 := fun o o1 o2 => frz_b (cell_lt (bc_R1_2 o o1)) (bf_R1_2 o o1) (below_alloc _ o2)
  clear hg c_R0_1 c_R1_1 f_R0_1 f_R1_1 hr1 R_1 T_1 ac_R0_1 bc_R0_1 dc_R0_1 ac_R1_1 bc_R1_1 dc_R1_1 af_R0_1 bf_R0_1 df_R0_1 af_R1_1 bf_R1_1 df_R1_1 hd
  go_wp2_with fail
  (with_reducible refine (S_l2WrongGroup _ (w.heap.size + 1) (0 + 5) (c) _ (xs) (R_2.out) (by omega) (rdb_mono (r_d_2.out) (by omega)) (by omega)).mono ?_)
  rintro e w3 ⟨c1, xs1, a1, cap1, rfl, hx1, hd1, hr1, hg⟩
  have c_R0_3 := cell_gs (c_R0_2) hg (by show w.heap.size ≠ (w.heap.size + 1); omega)
  have c_R1_3 := cell_gs (c_R1_2) hg (by show w.heap.size ≠ (w.heap.size + 1); omega)
  have f_R0_3 := frz_gs (p := ⟨w.heap.size, 0, none⟩) (cell_lt (c_R0_2)) (f_R0_2) hg (by show w.heap.size ≠ (w.heap.size + 1); omega)
  have f_R1_3 := frz_gs (p := ⟨w.heap.size, 1, none⟩) (cell_lt (c_R1_2)) (f_R1_2) hg (by show w.heap.size ≠ (w.heap.size + 1); omega)
  have r_d_3 := Lib.hid (rdb_gs (r_d_2.out) hg (by omega))
  have R_3 := Lib.hid hr1
  have T_3 := Lib.hid (gs_below (T_2.out) hg (by first | omega | (simp; done) | (simp; omega)) (by omega))
  have z_3 : w2.heap.size ≤ w3.heap.size := (by have := hg.size; (try simp at this); omega)
  have r_d1_3 := Lib.hid (rdb_mono hd1 (show w2.heap.size ≤ _ by first | omega | (simp; done) | (simp; omega)))
  have lr_d1 := Lib.hid (rdb_lo r_d1_3.out)
  have hr_d1 := Lib.hid (rdb_hi r_d1_3.out)
  have ac_R0_3 := fun o => cell_b (c_R0_3) (below_alloc _ o)
  have bc_R0_3 := fun o o1 => cell_b (ac_R0_3 o) (below_alloc _ o1)
  have dc_R0_3 := fun o o1 o2 => cell_b (bc_R0_3 o o1) (below_alloc _ o2)
  have ac_R1_3 := fun o => cell_b (c_R1_3) (below_alloc _ o)
  have bc_R1_3 := fun o o1 => cell_b (ac_R1_3 o) (below_alloc _ o1)
  have dc_R1_3 := fun o o1 o2 => cell_b (bc_R1_3 o o1) (below_alloc _ o2)
  have af_R0_3 := fun o => frz_b (cell_lt (c_R0_3)) (f_R0_3) (below_alloc _ o)
  have bf_R0_3 := fun o o1 => frz_b (cell_lt (ac_R0_3 o)) (af_R0_3 o) (below_alloc _ o1)
  have df_R0_3 := fun o o1 o2 => frz_b (cell_lt (bc_R0_3 o o1)) (bf_R0_3 o o1) (below_alloc _ o2)
  have af_R1_3 := fun o => frz_b (cell_lt (c_R1_3)) (f_R1_3) (below_alloc _ o)
  have bf_R1_3 := fun o o1 => frz_b (cell_lt (ac_R1_3 o)) (af_R1_3 o) (below_alloc _ o1)
  have df_R1_3 := fun o o1 o2 => frz_b (cell_lt (bc_R1_3 o o1)) (bf_R1_3 o o1) (below_alloc _ o2)
  clear hg c_R0_2 c_R1_2 f_R0_2 f_R1_2 r_d_2 hr1 R_2 T_2 ac_R0_2 bc_R0_2 dc_R0_2 ac_R1_2 bc_R1_2 dc_R1_2 af_R0_2 bf_R0_2 df_R0_2 af_R1_2 bf_R1_2 df_R1_2 hd1
  clear r_d_3 lr_d hr_d
  go_wp2_with fail
  (with_reducible refine (S_num _ (w.heap.size + 1) _ [0, 1, 2, 3, 5, 6] (0 + 7) (rdr_b (R_3.out) (below_alloc _ _)) (by omega) (rdb_lit _ #[.int .i64 0, .int .i64 1, .int .i64 2, .int .i64 3, .int .i64 5, .int .i64 6] [0, 1, 2, 3, 5, 6] rfl ((w.heap.size + 1) + 1) (w3.heap.size) 6 (by first | rfl | simp) rfl (by first | omega | (simp; omega))) (by decide) (by decide)).mono ?_)
  rintro e w4 ⟨t, rfl, ht, hr1, hg⟩
  have c_R0_4 := cell_gs (cell_b (c_R0_3) (below_alloc _ _)) hg (by show w.heap.size ≠ (w.heap.size + 1); omega)
  have c_R1_4 := cell_gs (cell_b (c_R1_3) (below_alloc _ _)) hg (by show w.heap.size ≠ (w.heap.size + 1); omega)
  have f_R0_4 := frz_gs (p := ⟨w.heap.size, 0, none⟩) (cell_lt (cell_b (c_R0_3) (below_alloc _ _))) (frz_b (cell_lt (c_R0_3)) (f_R0_3) (below_alloc _ _)) hg (by show w.heap.size ≠ (w.heap.size + 1); omega)
  have f_R1_4 := frz_gs (p := ⟨w.heap.size, 1, none⟩) (cell_lt (cell_b (c_R1_3) (below_alloc _ _))) (frz_b (cell_lt (c_R1_3)) (f_R1_3) (below_alloc _ _)) hg (by show w.heap.size ≠ (w.heap.size + 1); omega)
  have r_d1_4 := Lib.hid (rdb_gs (rdb_b (r_d1_3.out) (below_alloc _ _)) hg (by omega))
  have R_4 := Lib.hid hr1
  have T_4 := Lib.hid (gs_below (below_trans (T_3.out) (below_alloc _ _)) hg (by first | omega | (simp; done) | (simp; omega)) (by omega))
  have z_4 : w3.heap.size + 1 ≤ w4.heap.size := (by have := hg.size; (try simp at this); omega)
  have ac_R0_4 := fun o => cell_b (c_R0_4) (below_alloc _ o)
  have bc_R0_4 := fun o o1 => cell_b (ac_R0_4 o) (below_alloc _ o1)
  have dc_R0_4 := fun o o1 o2 => cell_b (bc_R0_4 o o1) (below_alloc _ o2)
  have ac_R1_4 := fun o => cell_b (c_R1_4) (below_alloc _ o)
  have bc_R1_4 := fun o o1 => cell_b (ac_R1_4 o) (below_alloc _ o1)
  have dc_R1_4 := fun o o1 o2 => cell_b (bc_R1_4 o o1) (below_alloc _ o2)
  have af_R0_4 := fun o => frz_b (cell_lt (c_R0_4)) (f_R0_4) (below_alloc _ o)
  have bf_R0_4 := fun o o1 => frz_b (cell_lt (ac_R0_4 o)) (af_R0_4 o) (below_alloc _ o1)
  have df_R0_4 := fun o o1 o2 => frz_b (cell_lt (bc_R0_4 o o1)) (bf_R0_4 o o1) (below_alloc _ o2)
  have af_R1_4 := fun o => frz_b (cell_lt (c_R1_4)) (f_R1_4) (below_alloc _ o)
  have bf_R1_4 := fun o o1 => frz_b (cell_lt (ac_R1_4 o)) (af_R1_4 o) (below_alloc _ o1)
  have df_R1_4 := fun o o1 o2 => frz_b (cell_lt (bc_R1_4 o o1)) (bf_R1_4 o o1) (below_alloc _ o2)
  clear hg c_R0_3 c_R1_3 f_R0_3 f_R1_3 r_d1_3 hr1 R_3 T_3 ac_R0_3 bc_R0_3 dc_R0_3 ac_R1_3 bc_R1_3 dc_R1_3 af_R0_3 bf_R0_3 df_R0_3 af_R1_3 bf_R1_3 df_R1_3 ht
  go_wp2_with fail
  refine bodyPost_ret (v := .tuple #[.agg #[.int .i64 c1, .slice a1 xs1.length cap1], .int .i64 t]) (by simp [results, Try.results17, go_sem, c_R0_4, c_R1_4]) rfl ⟨c1, xs1, t, a1, cap1, rfl, by omega, rdb_mono (rdb_set (p := ⟨w.heap.size, 1, none⟩) (rdb_set (p := ⟨w.heap.size, 0, none⟩) (r_d1_4.out) (fun g h => by have h1 := lr_d1.out g h; have h2 := hr_d1.out g h; show g ≠ w.heap.size; omega) _) (fun g h => by have h1 := lr_d1.out g h; have h2 := hr_d1.out g h; show g ≠ w.heap.size; omega) _) (by omega), (((T_4.out).setCell (p := ⟨w.heap.size, 0, none⟩) (by show w.heap.size ≤ w.heap.size; omega) _).setCell (p := ⟨w.heap.size, 1, none⟩) (by show w.heap.size ≤ w.heap.size; omega) _)⟩
set_option maxHeartbeats 4000000 in
set_option maxRecDepth 100000 in
theorem S_DrawAddGroup (w : World) (v : Value) (n : Nat) (hv : RdY w v n) (hn : n ≤ 4294967296) : Calls Try.prog 21 #[v] w (CodeGroupN w) := by
  go_enter Try.func21, Try.ntmps21
  have T_0 : Hid (Below w.heap.size w w) := Lib.hid (Below.refl _ _)
  go_wp2_with fail
  (with_reducible refine (S_l13Open _ _ n (rdy_b hv (below_alloc _ _)) hn).mono ?_)
  rintro e w1 ⟨q, hq, rfl, hr1, hb⟩
  (try simp at hq)
  subst hq
  have zr := rdr_lt hr1
  have c_R0_1 := cell_b (p := ⟨w.heap.size, 0, none⟩) (v := .int .i64 0) (by simp) hb
  have f_R0_1 := frz_b (p := ⟨w.heap.size, 0, none⟩) (by first | omega | (simp; done) | (simp; omega)) (show _ = false by simp) hb
  have c_R1_1 := cell_b (p := ⟨w.heap.size, 1, none⟩) (v := .slice none 0 0) (by simp) hb
  have f_R1_1 := frz_b (p := ⟨w.heap.size, 1, none⟩) (by first | omega | (simp; done) | (simp; omega)) (show _ = false by simp) hb
  have R_1 := Lib.hid hr1
  have T_1 := Lib.hid (below_trans (below_trans (T_0.out) (below_alloc _ _)) hb)
  have z_1 : w.heap.size + 1 ≤ w1.heap.size := (by have := hb.size; (try simp at this); omega)
  have ac_R0_1 := fun o => cell_b (c_R0_1) (below_alloc _ o)
  have bc_R0_1 := fun o o1 => cell_b (ac_R0_1 o) (below_alloc _ o1)
  have dc_R0_1 := fun o o1 o2 => cell_b (bc_R0_1 o o1) (below_alloc _ o2)
  have ac_R1_1 := fun o => cell_b (c_R1_1) (below_alloc _ o)
  have bc_R1_1 := fun o o1 => cell_b (ac_R1_1 o) (below_alloc _ o1)
  have dc_R1_1 := fun o o1 o2 => cell_b (bc_R1_1 o o1) (below_alloc _ o2)
  have af_R0_1 := fun o => frz_b (cell_lt (c_R0_1)) (f_R0_1) (below_alloc _ o)
  have bf_R0_1 := fun o o1 => frz_b (cell_lt (ac_R0_1 o)) (af_R0_1 o) (below_alloc _ o1)
  have df_R0_1 := fun o o1 o2 => frz_b (cell_lt (bc_R0_1 o o1)) (bf_R0_1 o o1) (below_alloc _ o2)
  have af_R1_1 := fun o => frz_b (cell_lt (c_R1_1)) (f_R1_1) (below_alloc _ o)
  have bf_R1_1 := fun o o1 => frz_b (cell_lt (ac_R1_1 o)) (af_R1_1 o) (below_alloc _ o1)
  have df_R1_1 := fun o o1 o2 => frz_b (cell_lt (bc_R1_1 o o1)) (bf_R1_1 o o1) (below_alloc _ o2)
  clear hb hr1 T_0
  go_wp2_with fail
  (with_reducible refine (S_l2DrawGroup _ _ 0 (R_1.out) (by omega)).mono ?_)
  rintro e w2 ⟨c, xs, a, cap, rfl, hx, hd, hr1, hg⟩
  have c_R0_2 := cell_gs (c_R0_1) hg (by show w.heap.size ≠ (w.heap.size + 1); omega)
  have c_R1_2 := cell_gs (c_R1_1) hg (by show w.heap.size ≠ (w.heap.size + 1); omega)
  have f_R0_2 := frz_gs (p := ⟨w.heap.size, 0, none⟩) (cell_lt (c_R0_1)) (f_R0_1) hg (by show w.heap.size ≠ (w.heap.size + 1); omega)
  have f_R1_2 := frz_gs (p := ⟨w.heap.size, 1, none⟩) (cell_lt (c_R1_1)) (f_R1_1) hg (by show w.heap.size ≠ (w.heap.size + 1); omega)
  have R_2 := Lib.hid hr1
  have T_2 := Lib.hid (gs_below (T_1.out) hg (by first | omega | (simp; done) | (simp; omega)) (by omega))
  have z_2 : w1.heap.size ≤ w2.heap.size := (by have := hg.size; (try simp at this); omega)
  have r_d_2 := Lib.hid (rdb_mono hd (show w1.heap.size ≤ _ by first | omega | (simp; done) | (simp; omega)))
  have lr_d := Lib.hid (rdb_lo r_d_2.out)
  have hr_d := Lib.hid (rdb_hi r_d_2.out)
  have ac_R0_2 := fun o => cell_b (c_R0_2) (below_alloc _ o)
  have bc_R0_2 := fun o o1 => cell_b (ac_R0_2 o) (below_alloc _ o1)
  have dc_R0_2 := fun o o1 o2 => cell_b (bc_R0_2 o o1) (below_alloc _ o2)
  have ac_R1_2 := fun o => cell_b (c_R1_2) (below_alloc _ o)
  have bc_R1_2 := fun o o1 => cell_b (ac_R1_2 o) (below_alloc _ o1)
  have dc_R1_2 := fun o o1 o2 => cell_b (bc_R1_2 o o1) (below_alloc _ o2)
  have af_R0_2 := fun o => frz_b (cell_lt (c_R0_2)) (f_R0_2) (below_alloc _ o)
  have bf_R0_2 := fun o o1 => frz_b (cell_lt (ac_R0_2 o)) (af_R0_2 o) (below_alloc _ o1)
  have df_R0_2 := fun o o1 o2 => frz_b (cell_lt (bc_R0_2 o o1)) (bf_R0_2 o o1) (below_alloc _ o2)
  have af_R1_2 := fun o => frz_b (cell_lt (c_R1_2)) (f_R1_2) (below_alloc _ o)
  have bf_R1_2 := fun o o1 => frz_b (cell_lt (ac_R1_2 o)) (af_R1_2 o) (below_alloc _ o1)
  have df_R1_2 := fun o o1 o2 => frz_b (cell_lt (bc_R1_2 o o1)) (bf_R1_2 o o1) (below_alloc _ o2)
  clear hg c_R0_1 c_R1_1 f_R0_1 f_R1_1 hr1 R_1 T_1 ac_R0_1 bc_R0_1 dc_R0_1 ac_R1_1 bc_R1_1 dc_R1_1 af_R0_1 bf_R0_1 df_R0_1 af_R1_1 bf_R1_1 df_R1_1 hd
  go_wp2_with fail
  (with_reducible refine (S_l2WrongGroup _ (w.heap.size + 1) (0 + 5) (c) _ (xs) (R_2.out) (by omega) (rdb_mono (r_d_2.out) (by omega)) (by omega)).mono ?_)
  rintro e w3 ⟨c1, xs1, a1, cap1, rfl, hx1, hd1, hr1, hg⟩
  have c_R0_3 := cell_gs (c_R0_2) hg (by show w.heap.size ≠ (w.heap.size + 1); omega)
  have c_R1_3 := cell_gs (c_R1_2) hg (by show w.heap.size ≠ (w.heap.size + 1); omega)
  have f_R0_3 := frz_gs (p := ⟨w.heap.size, 0, none⟩) (cell_lt (c_R0_2)) (f_R0_2) hg (by show w.heap.size ≠ (w.heap.size + 1); omega)
  have f_R1_3 := frz_gs (p := ⟨w.heap.size, 1, none⟩) (cell_lt (c_R1_2)) (f_R1_2) hg (by show w.heap.size ≠ (w.heap.size + 1); omega)
  have r_d_3 := Lib.hid (rdb_gs (r_d_2.out) hg (by omega))
  have R_3 := Lib.hid hr1
  have T_3 := Lib.hid (gs_below (T_2.out) hg (by first | omega | (simp; done) | (simp; omega)) (by omega))
  have z_3 : w2.heap.size ≤ w3.heap.size := (by have := hg.size; (try simp at this); omega)
  have r_d1_3 := Lib.hid (rdb_mono hd1 (show w2.heap.size ≤ _ by first | omega | (simp; done) | (simp; omega)))
  have lr_d1 := Lib.hid (rdb_lo r_d1_3.out)
  have hr_d1 := Lib.hid (rdb_hi r_d1_3.out)
  have ac_R0_3 := fun o => cell_b (c_R0_3) (below_alloc _ o)
  have bc_R0_3 := fun o o1 => cell_b (ac_R0_3 o) (below_alloc _ o1)
  have dc_R0_3 := fun o o1 o2 => cell_b (bc_R0_3 o o1) (below_alloc _ o2)
  have ac_R1_3 := fun o => cell_b (c_R1_3) (below_alloc _ o)
  have bc_R1_3 := fun o o1 => cell_b (ac_R1_3 o) (below_alloc _ o1)
  have dc_R1_3 := fun o o1 o2 => cell_b (bc_R1_3 o o1) (below_alloc _ o2)
  have af_R0_3 := fun o => frz_b (cell_lt (c_R0_3)) (f_R0_3) (below_alloc _ o)
  have bf_R0_3 := fun o o1 => frz_b (cell_lt (ac_R0_3 o)) (af_R0_3 o) (below_alloc _ o1)
  have df_R0_3 := fun o o1 o2 => frz_b (cell_lt (bc_R0_3 o o1)) (bf_R0_3 o o1) (below_alloc _ o2)
  have af_R1_3 := fun o => frz_b (cell_lt (c_R1_3)) (f_R1_3) (below_alloc _ o)
  have bf_R1_3 := fun o o1 => frz_b (cell_lt (ac_R1_3 o)) (af_R1_3 o) (below_alloc _ o1)
  have df_R1_3 := fun o o1 o2 => frz_b (cell_lt (bc_R1_3 o o1)) (bf_R1_3 o o1) (below_alloc _ o2)
  clear hg c_R0_2 c_R1_2 f_R0_2 f_R1_2 r_d_2 hr1 R_2 T_2 ac_R0_2 bc_R0_2 dc_R0_2 ac_R1_2 bc_R1_2 dc_R1_2 af_R0_2 bf_R0_2 df_R0_2 af_R1_2 bf_R1_2 df_R1_2 hd1
  clear r_d_3 lr_d hr_d
  go_wp2_with fail
  have c_R0_9 : ((w3).alloc (.cells #[.int .i64 c1, .slice a1 xs1.length cap1] 25)).cell? ⟨w.heap.size, 0, none⟩ = some (.int .i64 0) := cell_b (c_R0_3) (below_alloc _ _)
  have c_R1_9 : ((w3).alloc (.cells #[.int .i64 c1, .slice a1 xs1.length cap1] 25)).cell? ⟨w.heap.size, 1, none⟩ = some (.slice none 0 0) := cell_b (c_R1_3) (below_alloc _ _)
  have f_R0_9 : ((w3).alloc (.cells #[.int .i64 c1, .slice a1 xs1.length cap1] 25)).frozen? ⟨w.heap.size, 0, none⟩ = false := frz_b (cell_lt (c_R0_3)) (f_R0_3) (below_alloc _ _)
  have f_R1_9 : ((w3).alloc (.cells #[.int .i64 c1, .slice a1 xs1.length cap1] 25)).frozen? ⟨w.heap.size, 1, none⟩ = false := frz_b (cell_lt (c_R1_3)) (f_R1_3) (below_alloc _ _)
  have c_G0_9 : ((w3).alloc (.cells #[.int .i64 c1, .slice a1 xs1.length cap1] 25)).cell? ⟨w3.heap.size, 0, none⟩ = some (.int .i64 c1) := by simp
  have c_G1_9 : ((w3).alloc (.cells #[.int .i64 c1, .slice a1 xs1.length cap1] 25)).cell? ⟨w3.heap.size, 1, none⟩ = some (.slice a1 xs1.length cap1) := by simp
  have r_d1_9 : Hid (RdB ((w3).alloc (.cells #[.int .i64 c1, .slice a1 xs1.length cap1] 25)) (w2.heap.size) (.slice a1 xs1.length cap1) (xs1)) := Lib.hid ((rdb_b (r_d1_3.out) (below_alloc _ _)))
  have R_9 : Hid (Rdr ((w3).alloc (.cells #[.int .i64 c1, .slice a1 xs1.length cap1] 25)) ((w.heap.size + 1)) (0 + 5 + 2)) := Lib.hid (rdr_b (R_3.out) (below_alloc _ _))
  have T_9 : Hid (Below w.heap.size w ((w3).alloc (.cells #[.int .i64 c1, .slice a1 xs1.length cap1] 25))) := Lib.hid (below_trans (T_3.out) (below_alloc _ _))
  have z_9 : w3.heap.size + 1 ≤ ((w3).alloc (.cells #[.int .i64 c1, .slice a1 xs1.length cap1] 25)).heap.size := (by simp)
  clear c_R0_3 c_R1_3 f_R0_3 f_R1_3 r_d1_3 R_3 T_3 ac_R0_3 bc_R0_3 dc_R0_3 ac_R1_3 bc_R1_3 dc_R1_3 af_R0_3 bf_R0_3 df_R0_3 af_R1_3 bf_R1_3 df_R1_3
  generalize (w3).alloc (.cells #[.int .i64 c1, .slice a1 xs1.length cap1] 25) = w9 at *
  have ac_R0_9 := fun o => cell_b (c_R0_9) (below_alloc _ o)
  have bc_R0_9 := fun o o1 => cell_b (ac_R0_9 o) (below_alloc _ o1)
  have dc_R0_9 := fun o o1 o2 => cell_b (bc_R0_9 o o1) (below_alloc _ o2)
  have ac_R1_9 := fun o => cell_b (c_R1_9) (below_alloc _ o)
  have bc_R1_9 := fun o o1 => cell_b (ac_R1_9 o) (below_alloc _ o1)
  have dc_R1_9 := fun o o1 o2 => cell_b (bc_R1_9 o o1) (below_alloc _ o2)
  have ac_G0_9 := fun o => cell_b (c_G0_9) (below_alloc _ o)
  have bc_G0_9 := fun o o1 => cell_b (ac_G0_9 o) (below_alloc _ o1)
  have dc_G0_9 := fun o o1 o2 => cell_b (bc_G0_9 o o1) (below_alloc _ o2)
  have ac_G1_9 := fun o => cell_b (c_G1_9) (below_alloc _ o)
  have bc_G1_9 := fun o o1 => cell_b (ac_G1_9 o) (below_alloc _ o1)
  have dc_G1_9 := fun o o1 o2 => cell_b (bc_G1_9 o o1) (below_alloc _ o2)
  have af_R0_9 := fun o => frz_b (cell_lt (c_R0_9)) (f_R0_9) (below_alloc _ o)
  have bf_R0_9 := fun o o1 => frz_b (cell_lt (ac_R0_9 o)) (af_R0_9 o) (below_alloc _ o1)
  have df_R0_9 := fun o o1 o2 => frz_b (cell_lt (bc_R0_9 o o1)) (bf_R0_9 o o1) (below_alloc _ o2)
  have af_R1_9 := fun o => frz_b (cell_lt (c_R1_9)) (f_R1_9) (below_alloc _ o)
  have bf_R1_9 := fun o o1 => frz_b (cell_lt (ac_R1_9 o)) (af_R1_9 o) (below_alloc _ o1)
  have df_R1_9 := fun o o1 o2 => frz_b (cell_lt (bc_R1_9 o o1)) (bf_R1_9 o o1) (below_alloc _ o2)
  go_region_held3 (fun w' => w'.cell? ⟨w3.heap.size, 0, none⟩ = some (.int .i64 c1) ∧ w'.cell? ⟨w3.heap.size, 1, none⟩ = some (.slice a1 xs1.length cap1)) (first | with_reducible exact ⟨c_G0_9, c_G1_9⟩ | with_reducible exact ⟨cell_b (c_G0_9) (drew_below _), cell_b (c_G1_9) (drew_below _)⟩ | with_reducible exact ⟨c_G0_10, c_G1_10⟩ | with_reducible exact ⟨cell_set (p := ⟨w.heap.size, 0, none⟩) (c_G0_10) (ne_blk (by omega)), cell_set (p := ⟨w.heap.size, 0, none⟩) (c_G1_10) (ne_blk (by omega))⟩ | with_reducible exact ⟨cell_set (p := ⟨w.heap.size, 1, none⟩) (cell_set (p := ⟨w.heap.size, 0, none⟩) (c_G0_10) (ne_blk (by omega))) (ne_blk (by omega)), cell_set (p := ⟨w.heap.size, 1, none⟩) (cell_set (p := ⟨w.heap.size, 0, none⟩) (c_G1_10) (ne_blk (by omega))) (ne_blk (by omega))⟩ | go_keep)
    (first | (go_at_call 43; (with_reducible refine (S_num _ (w.heap.size + 1) _ [-1, 1, -2, 2, IntKind.i64.wrap (-c1), 0, 97, -100, -99, -3] (0 + 7) (rdr_b (rdr_b (R_9.out) (below_alloc _ _)) (drew_below _)) (by omega) (rdb_drew (rdb_lit _ #[.int .i64 (-1), .int .i64 (1), .int .i64 (-2), .int .i64 (2), .int .i64 (IntKind.i64.wrap (-c1)), .int .i64 (0), .int .i64 (97), .int .i64 (-100), .int .i64 (-99), .int .i64 (-3)] [-1, 1, -2, 2, IntKind.i64.wrap (-c1), 0, 97, -100, -99, -3] rfl ((w.heap.size + 1) + 1) (w9.heap.size) 10 (by first | rfl | simp) rfl (by first | omega | (simp; omega)))) (by simp) (by simp)).mono ?_); rintro e w10 ⟨t, rfl, ht, hr1, hg⟩; have c_R0_10 := cell_gs (cell_b (cell_b (c_R0_9) (below_alloc _ _)) (drew_below _)) hg (by show w.heap.size ≠ (w.heap.size + 1); omega); have c_R1_10 := cell_gs (cell_b (cell_b (c_R1_9) (below_alloc _ _)) (drew_below _)) hg (by show w.heap.size ≠ (w.heap.size + 1); omega); have c_G0_10 := cell_gs (cell_b (cell_b (c_G0_9) (below_alloc _ _)) (drew_below _)) hg (by show w3.heap.size ≠ (w.heap.size + 1); omega); have c_G1_10 := cell_gs (cell_b (cell_b (c_G1_9) (below_alloc _ _)) (drew_below _)) hg (by show w3.heap.size ≠ (w.heap.size + 1); omega); have f_R0_10 := frz_gs (p := ⟨w.heap.size, 0, none⟩) (cell_lt (cell_b (cell_b (c_R0_9) (below_alloc _ _)) (drew_below _))) (frz_b (cell_lt (cell_b (c_R0_9) (below_alloc _ _))) (frz_b (cell_lt (c_R0_9)) (f_R0_9) (below_alloc _ _)) (drew_below _)) hg (by show w.heap.size ≠ (w.heap.size + 1); omega); have f_R1_10 := frz_gs (p := ⟨w.heap.size, 1, none⟩) (cell_lt (cell_b (cell_b (c_R1_9) (below_alloc _ _)) (drew_below _))) (frz_b (cell_lt (cell_b (c_R1_9) (below_alloc _ _))) (frz_b (cell_lt (c_R1_9)) (f_R1_9) (below_alloc _ _)) (drew_below _)) hg (by show w.heap.size ≠ (w.heap.size + 1); omega); have r_d1_10 := Lib.hid (rdb_gs (rdb_b (rdb_b (r_d1_9.out) (below_alloc _ _)) (drew_below _)) hg (by omega)); have R_10 := Lib.hid hr1; have T_10 := Lib.hid (gs_below (below_trans (below_trans (T_9.out) (below_alloc _ _)) (drew_below _)) hg (by first | omega | (simp; done) | (simp; omega)) (by omega)); have z_10 : w9.heap.size + 1 ≤ w10.heap.size := (by have := hg.size; (try simp at this); omega); have ac_R0_10 := fun o => cell_b (c_R0_10) (below_alloc _ o); have bc_R0_10 := fun o o1 => cell_b (ac_R0_10 o) (below_alloc _ o1); have dc_R0_10 := fun o o1 o2 => cell_b (bc_R0_10 o o1) (below_alloc _ o2); have ac_R1_10 := fun o => cell_b (c_R1_10) (below_alloc _ o); have bc_R1_10 := fun o o1 => cell_b (ac_R1_10 o) (below_alloc _ o1); have dc_R1_10 := fun o o1 o2 => cell_b (bc_R1_10 o o1) (below_alloc _ o2); have ac_G0_10 := fun o => cell_b (c_G0_10) (below_alloc _ o); have bc_G0_10 := fun o o1 => cell_b (ac_G0_10 o) (below_alloc _ o1); have dc_G0_10 := fun o o1 o2 => cell_b (bc_G0_10 o o1) (below_alloc _ o2); have ac_G1_10 := fun o => cell_b (c_G1_10) (below_alloc _ o); have bc_G1_10 := fun o o1 => cell_b (ac_G1_10 o) (below_alloc _ o1); have dc_G1_10 := fun o o1 o2 => cell_b (bc_G1_10 o o1) (below_alloc _ o2); have af_R0_10 := fun o => frz_b (cell_lt (c_R0_10)) (f_R0_10) (below_alloc _ o); have bf_R0_10 := fun o o1 => frz_b (cell_lt (ac_R0_10 o)) (af_R0_10 o) (below_alloc _ o1); have df_R0_10 := fun o o1 o2 => frz_b (cell_lt (bc_R0_10 o o1)) (bf_R0_10 o o1) (below_alloc _ o2); have af_R1_10 := fun o => frz_b (cell_lt (c_R1_10)) (f_R1_10) (below_alloc _ o); have bf_R1_10 := fun o o1 => frz_b (cell_lt (ac_R1_10 o)) (af_R1_10 o) (below_alloc _ o1); have df_R1_10 := fun o o1 o2 => frz_b (cell_lt (bc_R1_10 o o1)) (bf_R1_10 o o1) (below_alloc _ o2); clear hg c_R0_9 c_R1_9 c_G0_9 c_G1_9 f_R0_9 f_R1_9 r_d1_9 hr1 R_9 T_9 ac_R0_9 bc_R0_9 dc_R0_9 ac_R1_9 bc_R1_9 dc_R1_9 ac_G0_9 bc_G0_9 dc_G0_9 ac_G1_9 bc_G1_9 dc_G1_9 af_R0_9 bf_R0_9 df_R0_9 af_R1_9 bf_R1_9 df_R1_9 ht))
  go_wp2_with fail
  refine bodyPost_ret (v := .tuple #[.agg #[.int .i64 c1, .slice a1 xs1.length cap1], .int .i64 t]) (by simp [results, Try.results21, go_sem, c_R0_10, c_R1_10]) rfl ⟨c1, xs1, t, a1, cap1, rfl, by omega, rdb_mono (rdb_set (p := ⟨w.heap.size, 1, none⟩) (rdb_set (p := ⟨w.heap.size, 0, none⟩) (r_d1_10.out) (fun g h => by have h1 := lr_d1.out g h; have h2 := hr_d1.out g h; show g ≠ w.heap.size; omega) _) (fun g h => by have h1 := lr_d1.out g h; have h2 := hr_d1.out g h; show g ≠ w.heap.size; omega) _) (by omega), (((T_10.out).setCell (p := ⟨w.heap.size, 0, none⟩) (by show w.heap.size ≤ w.heap.size; omega) _).setCell (p := ⟨w.heap.size, 1, none⟩) (by show w.heap.size ≤ w.heap.size; omega) _)⟩
set_option maxHeartbeats 4000000 in
set_option maxRecDepth 100000 in
theorem S_DrawGroupSame (w : World) (v : Value) (n : Nat) (hv : RdY w v n) (hn : n ≤ 4294967296) : Calls Try.prog 12 #[v] w (CodeGroup2 w) := by
  go_enter Try.func12, Try.ntmps12
  have T_0 : Hid (Below w.heap.size w w) := Lib.hid (Below.refl _ _)
  go_wp2_with fail
  (with_reducible refine (S_l13Open _ _ n (rdy_b hv (below_trans (below_alloc _ _) (below_alloc _ _))) hn).mono ?_)
  rintro e w1 ⟨q, hq, rfl, hr1, hb⟩
  (try simp at hq)
  subst hq
  have zr := rdr_lt hr1
  have c_R0_1 := cell_b (p := ⟨w.heap.size, 0, none⟩) (v := .int .i64 0) (by simp) hb
  have f_R0_1 := frz_b (p := ⟨w.heap.size, 0, none⟩) (by first | omega | (simp; done) | (simp; omega)) (show _ = false by simp) hb
  have c_R1_1 := cell_b (p := ⟨w.heap.size, 1, none⟩) (v := .slice none 0 0) (by simp) hb
  have f_R1_1 := frz_b (p := ⟨w.heap.size, 1, none⟩) (by first | omega | (simp; done) | (simp; omega)) (show _ = false by simp) hb
  have c_Rb0_1 := cell_b (p := ⟨w.heap.size + 1, 0, none⟩) (v := .int .i64 0) (by simp) hb
  have f_Rb0_1 := frz_b (p := ⟨w.heap.size + 1, 0, none⟩) (by first | omega | (simp; done) | (simp; omega)) (show _ = false by simp) hb
  have c_Rb1_1 := cell_b (p := ⟨w.heap.size + 1, 1, none⟩) (v := .slice none 0 0) (by simp) hb
  have f_Rb1_1 := frz_b (p := ⟨w.heap.size + 1, 1, none⟩) (by first | omega | (simp; done) | (simp; omega)) (show _ = false by simp) hb
  have R_1 := Lib.hid hr1
  have T_1 := Lib.hid (below_trans (below_trans (below_trans (T_0.out) (below_alloc _ _)) (below_alloc _ _)) hb)
  have z_1 : w.heap.size + 2 ≤ w1.heap.size := (by have := hb.size; (try simp at this); omega)
  have ac_R0_1 := fun o => cell_b (c_R0_1) (below_alloc _ o)
  have bc_R0_1 := fun o o1 => cell_b (ac_R0_1 o) (below_alloc _ o1)
  have dc_R0_1 := fun o o1 o2 => cell_b (bc_R0_1 o o1) (below_alloc _ o2)
  have ac_R1_1 := fun o => cell_b (c_R1_1) (below_alloc _ o)
  have bc_R1_1 := fun o o1 => cell_b (ac_R1_1 o) (below_alloc _ o1)
  have dc_R1_1 := fun o o1 o2 => cell_b (bc_R1_1 o o1) (below_alloc _ o2)
  have ac_Rb0_1 := fun o => cell_b (c_Rb0_1) (below_alloc _ o)
  have bc_Rb0_1 := fun o o1 => cell_b (ac_Rb0_1 o) (below_alloc _ o1)
  have dc_Rb0_1 := fun o o1 o2 => cell_b (bc_Rb0_1 o o1) (below_alloc _ o2)
  have ac_Rb1_1 := fun o => cell_b (c_Rb1_1) (below_alloc _ o)
  have bc_Rb1_1 := fun o o1 => cell_b (ac_Rb1_1 o) (below_alloc _ o1)
  have dc_Rb1_1 := fun o o1 o2 => cell_b (bc_Rb1_1 o o1) (below_alloc _ o2)
  have af_R0_1 := fun o => frz_b (cell_lt (c_R0_1)) (f_R0_1) (below_alloc _ o)
  have bf_R0_1 := fun o o1 => frz_b (cell_lt (ac_R0_1 o)) (af_R0_1 o) (below_alloc _ o1)
  have df_R0_1 := fun o o1 o2 => frz_b (cell_lt (bc_R0_1 o o1)) (bf_R0_1 o o1) (below_alloc _ o2)
  have af_R1_1 := fun o => frz_b (cell_lt (c_R1_1)) (f_R1_1) (below_alloc _ o)
  have bf_R1_1 := fun o o1 => frz_b (cell_lt (ac_R1_1 o)) (af_R1_1 o) (below_alloc _ o1)
  have df_R1_1 := fun o o1 o2 => frz_b (cell_lt (bc_R1_1 o o1)) (bf_R1_1 o o1) (below_alloc _ o2)
  have af_Rb0_1 := fun o => frz_b (cell_lt (c_Rb0_1)) (f_Rb0_1) (below_alloc _ o)
  have bf_Rb0_1 := fun o o1 => frz_b (cell_lt (ac_Rb0_1 o)) (af_Rb0_1 o) (below_alloc _ o1)
  have df_Rb0_1 := fun o o1 o2 => frz_b (cell_lt (bc_Rb0_1 o o1)) (bf_Rb0_1 o o1) (below_alloc _ o2)
  have af_Rb1_1 := fun o => frz_b (cell_lt (c_Rb1_1)) (f_Rb1_1) (below_alloc _ o)
  have bf_Rb1_1 := fun o o1 => frz_b (cell_lt (ac_Rb1_1 o)) (af_Rb1_1 o) (below_alloc _ o1)
  have df_Rb1_1 := fun o o1 o2 => frz_b (cell_lt (bc_Rb1_1 o o1)) (bf_Rb1_1 o o1) (below_alloc _ o2)
  clear hb hr1 T_0
  go_wp2_with fail
  (with_reducible refine (S_l2DrawGroup _ _ 0 (R_1.out) (by omega)).mono ?_)
  rintro e w2 ⟨c, xs, a, cap, rfl, hx, hd, hr1, hg⟩
  have c_R0_2 := cell_gs (c_R0_1) hg (by show w.heap.size ≠ (w.heap.size + 2); omega)
  have c_R1_2 := cell_gs (c_R1_1) hg (by show w.heap.size ≠ (w.heap.size + 2); omega)
  have c_Rb0_2 := cell_gs (c_Rb0_1) hg (by show w.heap.size + 1 ≠ (w.heap.size + 2); omega)
  have c_Rb1_2 := cell_gs (c_Rb1_1) hg (by show w.heap.size + 1 ≠ (w.heap.size + 2); omega)
  have f_R0_2 := frz_gs (p := ⟨w.heap.size, 0, none⟩) (cell_lt (c_R0_1)) (f_R0_1) hg (by show w.heap.size ≠ (w.heap.size + 2); omega)
  have f_R1_2 := frz_gs (p := ⟨w.heap.size, 1, none⟩) (cell_lt (c_R1_1)) (f_R1_1) hg (by show w.heap.size ≠ (w.heap.size + 2); omega)
  have f_Rb0_2 := frz_gs (p := ⟨w.heap.size + 1, 0, none⟩) (cell_lt (c_Rb0_1)) (f_Rb0_1) hg (by show w.heap.size + 1 ≠ (w.heap.size + 2); omega)
  have f_Rb1_2 := frz_gs (p := ⟨w.heap.size + 1, 1, none⟩) (cell_lt (c_Rb1_1)) (f_Rb1_1) hg (by show w.heap.size + 1 ≠ (w.heap.size + 2); omega)
  have R_2 := Lib.hid hr1
  have T_2 := Lib.hid (gs_below (T_1.out) hg (by first | omega | (simp; done) | (simp; omega)) (by omega))
  have z_2 : w1.heap.size ≤ w2.heap.size := (by have := hg.size; (try simp at this); omega)
  have r_d_2 := Lib.hid (rdb_mono hd (show w1.heap.size ≤ _ by first | omega | (simp; done) | (simp; omega)))
  have lr_d := Lib.hid (rdb_lo r_d_2.out)
  have hr_d := Lib.hid (rdb_hi r_d_2.out)
  have ac_R0_2 := fun o => cell_b (c_R0_2) (below_alloc _ o)
  have bc_R0_2 := fun o o1 => cell_b (ac_R0_2 o) (below_alloc _ o1)
  have dc_R0_2 := fun o o1 o2 => cell_b (bc_R0_2 o o1) (below_alloc _ o2)
  have ac_R1_2 := fun o => cell_b (c_R1_2) (below_alloc _ o)
  have bc_R1_2 := fun o o1 => cell_b (ac_R1_2 o) (below_alloc _ o1)
  have dc_R1_2 := fun o o1 o2 => cell_b (bc_R1_2 o o1) (below_alloc _ o2)
  have ac_Rb0_2 := fun o => cell_b (c_Rb0_2) (below_alloc _ o)
  have bc_Rb0_2 := fun o o1 => cell_b (ac_Rb0_2 o) (below_alloc _ o1)
  have dc_Rb0_2 := fun o o1 o2 => cell_b (bc_Rb0_2 o o1) (below_alloc _ o2)
  have ac_Rb1_2 := fun o => cell_b (c_Rb1_2) (below_alloc _ o)
  have bc_Rb1_2 := fun o o1 => cell_b (ac_Rb1_2 o) (below_alloc _ o1)
  have dc_Rb1_2 := fun o o1 o2 => cell_b (bc_Rb1_2 o o1) (below_alloc _ o2)
  have af_R0_2 := fun o => frz_b (cell_lt (c_R0_2)) (f_R0_2) (below_alloc _ o)
  have bf_R0_2 := fun o o1 => frz_b (cell_lt (ac_R0_2 o)) (af_R0_2 o) (below_alloc _ o1)
  have df_R0_2 := fun o o1 o2 => frz_b (cell_lt (bc_R0_2 o o1)) (bf_R0_2 o o1) (below_alloc _ o2)
  have af_R1_2 := fun o => frz_b (cell_lt (c_R1_2)) (f_R1_2) (below_alloc _ o)
  have bf_R1_2 := fun o o1 => frz_b (cell_lt (ac_R1_2 o)) (af_R1_2 o) (below_alloc _ o1)
  have df_R1_2 := fun o o1 o2 => frz_b (cell_lt (bc_R1_2 o o1)) (bf_R1_2 o o1) (below_alloc _ o2)
  have af_Rb0_2 := fun o => frz_b (cell_lt (c_Rb0_2)) (f_Rb0_2) (below_alloc _ o)
  have bf_Rb0_2 := fun o o1 => frz_b (cell_lt (ac_Rb0_2 o)) (af_Rb0_2 o) (below_alloc _ o1)
  have df_Rb0_2 := fun o o1 o2 => frz_b (cell_lt (bc_Rb0_2 o o1)) (bf_Rb0_2 o o1) (below_alloc _ o2)
  have af_Rb1_2 := fun o => frz_b (cell_lt (c_Rb1_2)) (f_Rb1_2) (below_alloc _ o)
  have bf_Rb1_2 := fun o o1 => frz_b (cell_lt (ac_Rb1_2 o)) (af_Rb1_2 o) (below_alloc _ o1)
  have df_Rb1_2 := fun o o1 o2 => frz_b (cell_lt (bc_Rb1_2 o o1)) (bf_Rb1_2 o o1) (below_alloc _ o2)
  clear hg c_R0_1 c_R1_1 c_Rb0_1 c_Rb1_1 f_R0_1 f_R1_1 f_Rb0_1 f_Rb1_1 hr1 R_1 T_1 ac_R0_1 bc_R0_1 dc_R0_1 ac_R1_1 bc_R1_1 dc_R1_1 ac_Rb0_1 bc_Rb0_1 dc_Rb0_1 ac_Rb1_1 bc_Rb1_1 dc_Rb1_1 af_R0_1 bf_R0_1 df_R0_1 af_R1_1 bf_R1_1 df_R1_1 af_Rb0_1 bf_Rb0_1 df_Rb0_1 af_Rb1_1 bf_Rb1_1 df_Rb1_1 hd
  go_wp2_with fail
  (with_reducible refine (S_pick _ (w.heap.size + 2) _ _ (rdr_b (R_2.out) (below_alloc _ _)) (by omega) (by omega)).mono ?_)
  rintro e w3 ⟨x, rfl, hx0, hx1, hr1, hg⟩
  have c_R0_3 := cell_gs (cell_b (c_R0_2) (below_alloc _ _)) hg (by show w.heap.size ≠ (w.heap.size + 2); omega)
  have c_R1_3 := cell_gs (cell_b (c_R1_2) (below_alloc _ _)) hg (by show w.heap.size ≠ (w.heap.size + 2); omega)
  have c_Rb0_3 := cell_gs (cell_b (c_Rb0_2) (below_alloc _ _)) hg (by show w.heap.size + 1 ≠ (w.heap.size + 2); omega)
  have c_Rb1_3 := cell_gs (cell_b (c_Rb1_2) (below_alloc _ _)) hg (by show w.heap.size + 1 ≠ (w.heap.size + 2); omega)
  have f_R0_3 := frz_gs (p := ⟨w.heap.size, 0, none⟩) (cell_lt (cell_b (c_R0_2) (below_alloc _ _))) (frz_b (cell_lt (c_R0_2)) (f_R0_2) (below_alloc _ _)) hg (by show w.heap.size ≠ (w.heap.size + 2); omega)
  have f_R1_3 := frz_gs (p := ⟨w.heap.size, 1, none⟩) (cell_lt (cell_b (c_R1_2) (below_alloc _ _))) (frz_b (cell_lt (c_R1_2)) (f_R1_2) (below_alloc _ _)) hg (by show w.heap.size ≠ (w.heap.size + 2); omega)
  have f_Rb0_3 := frz_gs (p := ⟨w.heap.size + 1, 0, none⟩) (cell_lt (cell_b (c_Rb0_2) (below_alloc _ _))) (frz_b (cell_lt (c_Rb0_2)) (f_Rb0_2) (below_alloc _ _)) hg (by show w.heap.size + 1 ≠ (w.heap.size + 2); omega)
  have f_Rb1_3 := frz_gs (p := ⟨w.heap.size + 1, 1, none⟩) (cell_lt (cell_b (c_Rb1_2) (below_alloc _ _))) (frz_b (cell_lt (c_Rb1_2)) (f_Rb1_2) (below_alloc _ _)) hg (by show w.heap.size + 1 ≠ (w.heap.size + 2); omega)
  have c_G0_3 := cell_gs (p := ⟨w2.heap.size, 0, none⟩) (v := .int .i64 c) (by simp) hg (by show w2.heap.size ≠ (w.heap.size + 2); omega)
  have c_G1_3 := cell_gs (p := ⟨w2.heap.size, 1, none⟩) (v := .slice a xs.length cap) (by simp) hg (by show w2.heap.size ≠ (w.heap.size + 2); omega)
  have r_d_3 := Lib.hid (rdb_gs (rdb_b (r_d_2.out) (below_alloc _ _)) hg (by omega))
  have R_3 := Lib.hid hr1
  have T_3 := Lib.hid (gs_below (below_trans (T_2.out) (below_alloc _ _)) hg (by first | omega | (simp; done) | (simp; omega)) (by omega))
  have z_3 : w2.heap.size + 1 ≤ w3.heap.size := (by have := hg.size; (try simp at this); omega)
  have ac_R0_3 := fun o => cell_b (c_R0_3) (below_alloc _ o)
  have bc_R0_3 := fun o o1 => cell_b (ac_R0_3 o) (below_alloc _ o1)
  have dc_R0_3 := fun o o1 o2 => cell_b (bc_R0_3 o o1) (below_alloc _ o2)
  have ac_R1_3 := fun o => cell_b (c_R1_3) (below_alloc _ o)
  have bc_R1_3 := fun o o1 => cell_b (ac_R1_3 o) (below_alloc _ o1)
  have dc_R1_3 := fun o o1 o2 => cell_b (bc_R1_3 o o1) (below_alloc _ o2)
  have ac_Rb0_3 := fun o => cell_b (c_Rb0_3) (below_alloc _ o)
  have bc_Rb0_3 := fun o o1 => cell_b (ac_Rb0_3 o) (below_alloc _ o1)
  have dc_Rb0_3 := fun o o1 o2 => cell_b (bc_Rb0_3 o o1) (below_alloc _ o2)
  have ac_Rb1_3 := fun o => cell_b (c_Rb1_3) (below_alloc _ o)
  have bc_Rb1_3 := fun o o1 => cell_b (ac_Rb1_3 o) (below_alloc _ o1)
  have dc_Rb1_3 := fun o o1 o2 => cell_b (bc_Rb1_3 o o1) (below_alloc _ o2)
  have ac_G0_3 := fun o => cell_b (c_G0_3) (below_alloc _ o)
  have bc_G0_3 := fun o o1 => cell_b (ac_G0_3 o) (below_alloc _ o1)
  have dc_G0_3 := fun o o1 o2 => cell_b (bc_G0_3 o o1) (below_alloc _ o2)
  have ac_G1_3 := fun o => cell_b (c_G1_3) (below_alloc _ o)
  have bc_G1_3 := fun o o1 => cell_b (ac_G1_3 o) (below_alloc _ o1)
  have dc_G1_3 := fun o o1 o2 => cell_b (bc_G1_3 o o1) (below_alloc _ o2)
  have af_R0_3 := fun o => frz_b (cell_lt (c_R0_3)) (f_R0_3) (below_alloc _ o)
  have bf_R0_3 := fun o o1 => frz_b (cell_lt (ac_R0_3 o)) (af_R0_3 o) (below_alloc _ o1)
  have df_R0_3 := fun o o1 o2 => frz_b (cell_lt (bc_R0_3 o o1)) (bf_R0_3 o o1) (below_alloc _ o2)
  have af_R1_3 := fun o => frz_b (cell_lt (c_R1_3)) (f_R1_3) (below_alloc _ o)
  have bf_R1_3 := fun o o1 => frz_b (cell_lt (ac_R1_3 o)) (af_R1_3 o) (below_alloc _ o1)
  have df_R1_3 := fun o o1 o2 => frz_b (cell_lt (bc_R1_3 o o1)) (bf_R1_3 o o1) (below_alloc _ o2)
  have af_Rb0_3 := fun o => frz_b (cell_lt (c_Rb0_3)) (f_Rb0_3) (below_alloc _ o)
  have bf_Rb0_3 := fun o o1 => frz_b (cell_lt (ac_Rb0_3 o)) (af_Rb0_3 o) (below_alloc _ o1)
  have df_Rb0_3 := fun o o1 o2 => frz_b (cell_lt (bc_Rb0_3 o o1)) (bf_Rb0_3 o o1) (below_alloc _ o2)
  have af_Rb1_3 := fun o => frz_b (cell_lt (c_Rb1_3)) (f_Rb1_3) (below_alloc _ o)
  have bf_Rb1_3 := fun o o1 => frz_b (cell_lt (ac_Rb1_3 o)) (af_Rb1_3 o) (below_alloc _ o1)
  have df_Rb1_3 := fun o o1 o2 => frz_b (cell_lt (bc_Rb1_3 o o1)) (bf_Rb1_3 o o1) (below_alloc _ o2)
  clear hg c_R0_2 c_R1_2 c_Rb0_2 c_Rb1_2 f_R0_2 f_R1_2 f_Rb0_2 f_Rb1_2 r_d_2 hr1 R_2 T_2 ac_R0_2 bc_R0_2 dc_R0_2 ac_R1_2 bc_R1_2 dc_R1_2 ac_Rb0_2 bc_Rb0_2 dc_Rb0_2 ac_Rb1_2 bc_Rb1_2 dc_Rb1_2 af_R0_2 bf_R0_2 df_R0_2 af_R1_2 bf_R1_2 df_R1_2 af_Rb0_2 bf_Rb0_2 df_Rb0_2 af_Rb1_2 bf_Rb1_2 df_Rb1_2 hx1
  by_cases hx0 : x = 0
  · subst hx0
    go_wp2_with fail
    go_region_held3 (fun w' => w'.cell? ⟨w2.heap.size, 0, none⟩ = some (.int .i64 c) ∧ w'.cell? ⟨w2.heap.size, 1, none⟩ = some (.slice a xs.length cap)) (first | with_reducible exact ⟨c_G0_3, c_G1_3⟩ | with_reducible exact ⟨cell_b (c_G0_3) (drew_below _), cell_b (c_G1_3) (drew_below _)⟩ | with_reducible exact ⟨c_G0_4, c_G1_4⟩ | with_reducible exact ⟨cell_set (p := ⟨w.heap.size, 0, none⟩) (c_G0_4) (ne_blk (by omega)), cell_set (p := ⟨w.heap.size, 0, none⟩) (c_G1_4) (ne_blk (by omega))⟩ | with_reducible exact ⟨cell_set (p := ⟨w.heap.size, 1, none⟩) (cell_set (p := ⟨w.heap.size, 0, none⟩) (c_G0_4) (ne_blk (by omega))) (ne_blk (by omega)), cell_set (p := ⟨w.heap.size, 1, none⟩) (cell_set (p := ⟨w.heap.size, 0, none⟩) (c_G1_4) (ne_blk (by omega))) (ne_blk (by omega))⟩ | with_reducible exact ⟨cell_set (p := ⟨w.heap.size + 1, 0, none⟩) (cell_set (p := ⟨w.heap.size, 1, none⟩) (cell_set (p := ⟨w.heap.size, 0, none⟩) (c_G0_4) (ne_blk (by omega))) (ne_blk (by omega))) (ne_blk (by omega)), cell_set (p := ⟨w.heap.size + 1, 0, none⟩) (cell_set (p := ⟨w.heap.size, 1, none⟩) (cell_set (p := ⟨w.heap.size, 0, none⟩) (c_G1_4) (ne_blk (by omega))) (ne_blk (by omega))) (ne_blk (by omega))⟩ | with_reducible exact ⟨cell_set (p := ⟨w.heap.size + 1, 1, none⟩) (cell_set (p := ⟨w.heap.size + 1, 0, none⟩) (cell_set (p := ⟨w.heap.size, 1, none⟩) (cell_set (p := ⟨w.heap.size, 0, none⟩) (c_G0_4) (ne_blk (by omega))) (ne_blk (by omega))) (ne_blk (by omega))) (ne_blk (by omega)), cell_set (p := ⟨w.heap.size + 1, 1, none⟩) (cell_set (p := ⟨w.heap.size + 1, 0, none⟩) (cell_set (p := ⟨w.heap.size, 1, none⟩) (cell_set (p := ⟨w.heap.size, 0, none⟩) (c_G1_4) (ne_blk (by omega))) (ne_blk (by omega))) (ne_blk (by omega))) (ne_blk (by omega))⟩ | go_keep)
      (first | (go_at_call 34; (with_reducible refine (S_l2DrawGroup _ (w.heap.size + 2) (0 + 6) (rdr_b (R_3.out) (drew_below _)) (by omega)).mono ?_); rintro e w4 ⟨c2, xs2, a2, cap2, rfl, hx2, hd2, hr1, hg⟩; have c_R0_4 := cell_gs (cell_b (c_R0_3) (drew_below _)) hg (by show w.heap.size ≠ (w.heap.size + 2); omega); have c_R1_4 := cell_gs (cell_b (c_R1_3) (drew_below _)) hg (by show w.heap.size ≠ (w.heap.size + 2); omega); have c_Rb0_4 := cell_gs (cell_b (c_Rb0_3) (drew_below _)) hg (by show w.heap.size + 1 ≠ (w.heap.size + 2); omega); have c_Rb1_4 := cell_gs (cell_b (c_Rb1_3) (drew_below _)) hg (by show w.heap.size + 1 ≠ (w.heap.size + 2); omega); have c_G0_4 := cell_gs (cell_b (c_G0_3) (drew_below _)) hg (by show w2.heap.size ≠ (w.heap.size + 2); omega); have c_G1_4 := cell_gs (cell_b (c_G1_3) (drew_below _)) hg (by show w2.heap.size ≠ (w.heap.size + 2); omega); have f_R0_4 := frz_gs (p := ⟨w.heap.size, 0, none⟩) (cell_lt (cell_b (c_R0_3) (drew_below _))) (frz_b (cell_lt (c_R0_3)) (f_R0_3) (drew_below _)) hg (by show w.heap.size ≠ (w.heap.size + 2); omega); have f_R1_4 := frz_gs (p := ⟨w.heap.size, 1, none⟩) (cell_lt (cell_b (c_R1_3) (drew_below _))) (frz_b (cell_lt (c_R1_3)) (f_R1_3) (drew_below _)) hg (by show w.heap.size ≠ (w.heap.size + 2); omega); have f_Rb0_4 := frz_gs (p := ⟨w.heap.size + 1, 0, none⟩) (cell_lt (cell_b (c_Rb0_3) (drew_below _))) (frz_b (cell_lt (c_Rb0_3)) (f_Rb0_3) (drew_below _)) hg (by show w.heap.size + 1 ≠ (w.heap.size + 2); omega); have f_Rb1_4 := frz_gs (p := ⟨w.heap.size + 1, 1, none⟩) (cell_lt (cell_b (c_Rb1_3) (drew_below _))) (frz_b (cell_lt (c_Rb1_3)) (f_Rb1_3) (drew_below _)) hg (by show w.heap.size + 1 ≠ (w.heap.size + 2); omega); have r_d_4 := Lib.hid (rdb_gs (rdb_b (r_d_3.out) (drew_below _)) hg (by omega)); have R_4 := Lib.hid hr1; have T_4 := Lib.hid (gs_below (below_trans (T_3.out) (drew_below _)) hg (by first | omega | (simp; done) | (simp; omega)) (by omega)); have z_4 : w3.heap.size ≤ w4.heap.size := (by have := hg.size; (try simp at this); omega); have r_e_4 := Lib.hid (rdb_mono hd2 (show w3.heap.size ≤ _ by first | omega | (simp; done) | (simp; omega))); have lr_e := Lib.hid (rdb_lo r_e_4.out); have hr_e := Lib.hid (rdb_hi r_e_4.out); have ac_R0_4 := fun o => cell_b (c_R0_4) (below_alloc _ o); have bc_R0_4 := fun o o1 => cell_b (ac_R0_4 o) (below_alloc _ o1); have dc_R0_4 := fun o o1 o2 => cell_b (bc_R0_4 o o1) (below_alloc _ o2); have ac_R1_4 := fun o => cell_b (c_R1_4) (below_alloc _ o); have bc_R1_4 := fun o o1 => cell_b (ac_R1_4 o) (below_alloc _ o1); have dc_R1_4 := fun o o1 o2 => cell_b (bc_R1_4 o o1) (below_alloc _ o2); have ac_Rb0_4 := fun o => cell_b (c_Rb0_4) (below_alloc _ o); have bc_Rb0_4 := fun o o1 => cell_b (ac_Rb0_4 o) (below_alloc _ o1); have dc_Rb0_4 := fun o o1 o2 => cell_b (bc_Rb0_4 o o1) (below_alloc _ o2); have ac_Rb1_4 := fun o => cell_b (c_Rb1_4) (below_alloc _ o); have bc_Rb1_4 := fun o o1 => cell_b (ac_Rb1_4 o) (below_alloc _ o1); have dc_Rb1_4 := fun o o1 o2 => cell_b (bc_Rb1_4 o o1) (below_alloc _ o2); have ac_G0_4 := fun o => cell_b (c_G0_4) (below_alloc _ o); have bc_G0_4 := fun o o1 => cell_b (ac_G0_4 o) (below_alloc _ o1); have dc_G0_4 := fun o o1 o2 => cell_b (bc_G0_4 o o1) (below_alloc _ o2); have ac_G1_4 := fun o => cell_b (c_G1_4) (below_alloc _ o); have bc_G1_4 := fun o o1 => cell_b (ac_G1_4 o) (below_alloc _ o1); have dc_G1_4 := fun o o1 o2 => cell_b (bc_G1_4 o o1) (below_alloc _ o2); have af_R0_4 := fun o => frz_b (cell_lt (c_R0_4)) (f_R0_4) (below_alloc _ o); have bf_R0_4 := fun o o1 => frz_b (cell_lt (ac_R0_4 o)) (af_R0_4 o) (below_alloc _ o1); have df_R0_4 := fun o o1 o2 => frz_b (cell_lt (bc_R0_4 o o1)) (bf_R0_4 o o1) (below_alloc _ o2); have af_R1_4 := fun o => frz_b (cell_lt (c_R1_4)) (f_R1_4) (below_alloc _ o); have bf_R1_4 := fun o o1 => frz_b (cell_lt (ac_R1_4 o)) (af_R1_4 o) (below_alloc _ o1); have df_R1_4 := fun o o1 o2 => frz_b (cell_lt (bc_R1_4 o o1)) (bf_R1_4 o o1) (below_alloc _ o2); have af_Rb0_4 := fun o => frz_b (cell_lt (c_Rb0_4)) (f_Rb0_4) (below_alloc _ o); have bf_Rb0_4 := fun o o1 => frz_b (cell_lt (ac_Rb0_4 o)) (af_Rb0_4 o) (below_alloc _ o1); have df_Rb0_4 := fun o o1 o2 => frz_b (cell_lt (bc_Rb0_4 o o1)) (bf_Rb0_4 o o1) (below_alloc _ o2); have af_Rb1_4 := fun o => frz_b (cell_lt (c_Rb1_4)) (f_Rb1_4) (below_alloc _ o); have bf_Rb1_4 := fun o o1 => frz_b (cell_lt (ac_Rb1_4 o)) (af_Rb1_4 o) (below_alloc _ o1); have df_Rb1_4 := fun o o1 o2 => frz_b (cell_lt (bc_Rb1_4 o o1)) (bf_Rb1_4 o o1) (below_alloc _ o2); clear hg c_R0_3 c_R1_3 c_Rb0_3 c_Rb1_3 c_G0_3 c_G1_3 f_R0_3 f_R1_3 f_Rb0_3 f_Rb1_3 r_d_3 hr1 R_3 T_3 ac_R0_3 bc_R0_3 dc_R0_3 ac_R1_3 bc_R1_3 dc_R1_3 ac_Rb0_3 bc_Rb0_3 dc_Rb0_3 ac_Rb1_3 bc_Rb1_3 dc_Rb1_3 ac_G0_3 bc_G0_3 dc_G0_3 ac_G1_3 bc_G1_3 dc_G1_3 af_R0_3 bf_R0_3 df_R0_3 af_R1_3 bf_R1_3 df_R1_3 af_Rb0_3 bf_Rb0_3 df_Rb0_3 af_Rb1_3 bf_Rb1_3 df_Rb1_3 hd2))
    go_wp2_with fail
    refine bodyPost_ret (v := .tuple #[.agg #[.int .i64 c, .slice a xs.length cap], .agg #[.int .i64 c2, .slice a2 xs2.length cap2]]) (by simp [results, Try.results12, go_sem, c_R0_4, c_R1_4, c_Rb0_4, c_Rb1_4]) rfl ⟨c, xs, a, cap, c2, xs2, a2, cap2, rfl, by omega, by omega, rdb_mono (rdb_set (p := ⟨w.heap.size + 1, 1, none⟩) (rdb_set (p := ⟨w.heap.size + 1, 0, none⟩) (rdb_set (p := ⟨w.heap.size, 1, none⟩) (rdb_set (p := ⟨w.heap.size, 0, none⟩) (r_d_4.out) (fun g h => by have h1 := lr_d.out g h; have h2 := hr_d.out g h; show g ≠ w.heap.size; omega) _) (fun g h => by have h1 := lr_d.out g h; have h2 := hr_d.out g h; show g ≠ w.heap.size; omega) _) (fun g h => by have h1 := lr_d.out g h; have h2 := hr_d.out g h; show g ≠ w.heap.size + 1; omega) _) (fun g h => by have h1 := lr_d.out g h; have h2 := hr_d.out g h; show g ≠ w.heap.size + 1; omega) _) (by omega), rdb_mono (rdb_set (p := ⟨w.heap.size + 1, 1, none⟩) (rdb_set (p := ⟨w.heap.size + 1, 0, none⟩) (rdb_set (p := ⟨w.heap.size, 1, none⟩) (rdb_set (p := ⟨w.heap.size, 0, none⟩) (r_e_4.out) (fun g h => by have h1 := lr_e.out g h; have h2 := hr_e.out g h; show g ≠ w.heap.size; omega) _) (fun g h => by have h1 := lr_e.out g h; have h2 := hr_e.out g h; show g ≠ w.heap.size; omega) _) (fun g h => by have h1 := lr_e.out g h; have h2 := hr_e.out g h; show g ≠ w.heap.size + 1; omega) _) (fun g h => by have h1 := lr_e.out g h; have h2 := hr_e.out g h; show g ≠ w.heap.size + 1; omega) _) (by omega), (((((T_4.out).setCell (p := ⟨w.heap.size, 0, none⟩) (by show w.heap.size ≤ w.heap.size; omega) _).setCell (p := ⟨w.heap.size, 1, none⟩) (by show w.heap.size ≤ w.heap.size; omega) _).setCell (p := ⟨w.heap.size + 1, 0, none⟩) (by show w.heap.size ≤ w.heap.size + 1; omega) _).setCell (p := ⟨w.heap.size + 1, 1, none⟩) (by show w.heap.size ≤ w.heap.size + 1; omega) _)⟩
  · go_wp2_with fail
    go_region_held3 (fun w' => w'.cell? ⟨w2.heap.size, 0, none⟩ = some (.int .i64 c) ∧ w'.cell? ⟨w2.heap.size, 1, none⟩ = some (.slice a xs.length cap)) (first | with_reducible exact ⟨c_G0_3, c_G1_3⟩ | with_reducible exact ⟨cell_b (c_G0_3) (drew_below _), cell_b (c_G1_3) (drew_below _)⟩ | with_reducible exact ⟨c_G0_4, c_G1_4⟩ | with_reducible exact ⟨c_G0_5, c_G1_5⟩ | with_reducible exact ⟨cell_set (p := ⟨w.heap.size, 0, none⟩) (c_G0_5) (ne_blk (by omega)), cell_set (p := ⟨w.heap.size, 0, none⟩) (c_G1_5) (ne_blk (by omega))⟩ | with_reducible exact ⟨cell_set (p := ⟨w.heap.size, 1, none⟩) (cell_set (p := ⟨w.heap.size, 0, none⟩) (c_G0_5) (ne_blk (by omega))) (ne_blk (by omega)), cell_set (p := ⟨w.heap.size, 1, none⟩) (cell_set (p := ⟨w.heap.size, 0, none⟩) (c_G1_5) (ne_blk (by omega))) (ne_blk (by omega))⟩ | with_reducible exact ⟨cell_set (p := ⟨w.heap.size + 1, 0, none⟩) (cell_set (p := ⟨w.heap.size, 1, none⟩) (cell_set (p := ⟨w.heap.size, 0, none⟩) (c_G0_5) (ne_blk (by omega))) (ne_blk (by omega))) (ne_blk (by omega)), cell_set (p := ⟨w.heap.size + 1, 0, none⟩) (cell_set (p := ⟨w.heap.size, 1, none⟩) (cell_set (p := ⟨w.heap.size, 0, none⟩) (c_G1_5) (ne_blk (by omega))) (ne_blk (by omega))) (ne_blk (by omega))⟩ | with_reducible exact ⟨cell_set (p := ⟨w.heap.size + 1, 1, none⟩) (cell_set (p := ⟨w.heap.size + 1, 0, none⟩) (cell_set (p := ⟨w.heap.size, 1, none⟩) (cell_set (p := ⟨w.heap.size, 0, none⟩) (c_G0_5) (ne_blk (by omega))) (ne_blk (by omega))) (ne_blk (by omega))) (ne_blk (by omega)), cell_set (p := ⟨w.heap.size + 1, 1, none⟩) (cell_set (p := ⟨w.heap.size + 1, 0, none⟩) (cell_set (p := ⟨w.heap.size, 1, none⟩) (cell_set (p := ⟨w.heap.size, 0, none⟩) (c_G1_5) (ne_blk (by omega))) (ne_blk (by omega))) (ne_blk (by omega))) (ne_blk (by omega))⟩ | go_keep)
      (first | (go_at_call 36; (with_reducible refine (S_l2WrongGroup _ (w.heap.size + 2) (0 + 6) (c) _ (xs) (rdr_b (R_3.out) (drew_below _)) (by omega) (rdb_mono (rdb_b (r_d_3.out) (drew_below _)) (by omega)) (by omega)).mono ?_); rintro e w4 ⟨c2, xs2, a2, cap2, rfl, hx2, hd2, hr1, hg⟩; have c_R0_4 := cell_gs (cell_b (c_R0_3) (drew_below _)) hg (by show w.heap.size ≠ (w.heap.size + 2); omega); have c_R1_4 := cell_gs (cell_b (c_R1_3) (drew_below _)) hg (by show w.heap.size ≠ (w.heap.size + 2); omega); have c_Rb0_4 := cell_gs (cell_b (c_Rb0_3) (drew_below _)) hg (by show w.heap.size + 1 ≠ (w.heap.size + 2); omega); have c_Rb1_4 := cell_gs (cell_b (c_Rb1_3) (drew_below _)) hg (by show w.heap.size + 1 ≠ (w.heap.size + 2); omega); have c_G0_4 := cell_gs (cell_b (c_G0_3) (drew_below _)) hg (by show w2.heap.size ≠ (w.heap.size + 2); omega); have c_G1_4 := cell_gs (cell_b (c_G1_3) (drew_below _)) hg (by show w2.heap.size ≠ (w.heap.size + 2); omega); have f_R0_4 := frz_gs (p := ⟨w.heap.size, 0, none⟩) (cell_lt (cell_b (c_R0_3) (drew_below _))) (frz_b (cell_lt (c_R0_3)) (f_R0_3) (drew_below _)) hg (by show w.heap.size ≠ (w.heap.size + 2); omega); have f_R1_4 := frz_gs (p := ⟨w.heap.size, 1, none⟩) (cell_lt (cell_b (c_R1_3) (drew_below _))) (frz_b (cell_lt (c_R1_3)) (f_R1_3) (drew_below _)) hg (by show w.heap.size ≠ (w.heap.size + 2); omega); have f_Rb0_4 := frz_gs (p := ⟨w.heap.size + 1, 0, none⟩) (cell_lt (cell_b (c_Rb0_3) (drew_below _))) (frz_b (cell_lt (c_Rb0_3)) (f_Rb0_3) (drew_below _)) hg (by show w.heap.size + 1 ≠ (w.heap.size + 2); omega); have f_Rb1_4 := frz_gs (p := ⟨w.heap.size + 1, 1, none⟩) (cell_lt (cell_b (c_Rb1_3) (drew_below _))) (frz_b (cell_lt (c_Rb1_3)) (f_Rb1_3) (drew_below _)) hg (by show w.heap.size + 1 ≠ (w.heap.size + 2); omega); have r_d_4 := Lib.hid (rdb_gs (rdb_b (r_d_3.out) (drew_below _)) hg (by omega)); have R_4 := Lib.hid hr1; have T_4 := Lib.hid (gs_below (below_trans (T_3.out) (drew_below _)) hg (by first | omega | (simp; done) | (simp; omega)) (by omega)); have z_4 : w3.heap.size ≤ w4.heap.size := (by have := hg.size; (try simp at this); omega); have r_d2_4 := Lib.hid (rdb_mono hd2 (show w3.heap.size ≤ _ by first | omega | (simp; done) | (simp; omega))); have lr_d2 := Lib.hid (rdb_lo r_d2_4.out); have hr_d2 := Lib.hid (rdb_hi r_d2_4.out); have ac_R0_4 := fun o => cell_b (c_R0_4) (below_alloc _ o); have bc_R0_4 := fun o o1 => cell_b (ac_R0_4 o) (below_alloc _ o1); have dc_R0_4 := fun o o1 o2 => cell_b (bc_R0_4 o o1) (below_alloc _ o2); have ac_R1_4 := fun o => cell_b (c_R1_4) (below_alloc _ o); have bc_R1_4 := fun o o1 => cell_b (ac_R1_4 o) (below_alloc _ o1); have dc_R1_4 := fun o o1 o2 => cell_b (bc_R1_4 o o1) (below_alloc _ o2); have ac_Rb0_4 := fun o => cell_b (c_Rb0_4) (below_alloc _ o); have bc_Rb0_4 := fun o o1 => cell_b (ac_Rb0_4 o) (below_alloc _ o1); have dc_Rb0_4 := fun o o1 o2 => cell_b (bc_Rb0_4 o o1) (below_alloc _ o2); have ac_Rb1_4 := fun o => cell_b (c_Rb1_4) (below_alloc _ o); have bc_Rb1_4 := fun o o1 => cell_b (ac_Rb1_4 o) (below_alloc _ o1); have dc_Rb1_4 := fun o o1 o2 => cell_b (bc_Rb1_4 o o1) (below_alloc _ o2); have ac_G0_4 := fun o => cell_b (c_G0_4) (below_alloc _ o); have bc_G0_4 := fun o o1 => cell_b (ac_G0_4 o) (below_alloc _ o1); have dc_G0_4 := fun o o1 o2 => cell_b (bc_G0_4 o o1) (below_alloc _ o2); have ac_G1_4 := fun o => cell_b (c_G1_4) (below_alloc _ o); have bc_G1_4 := fun o o1 => cell_b (ac_G1_4 o) (below_alloc _ o1); have dc_G1_4 := fun o o1 o2 => cell_b (bc_G1_4 o o1) (below_alloc _ o2); have af_R0_4 := fun o => frz_b (cell_lt (c_R0_4)) (f_R0_4) (below_alloc _ o); have bf_R0_4 := fun o o1 => frz_b (cell_lt (ac_R0_4 o)) (af_R0_4 o) (below_alloc _ o1); have df_R0_4 := fun o o1 o2 => frz_b (cell_lt (bc_R0_4 o o1)) (bf_R0_4 o o1) (below_alloc _ o2); have af_R1_4 := fun o => frz_b (cell_lt (c_R1_4)) (f_R1_4) (below_alloc _ o); have bf_R1_4 := fun o o1 => frz_b (cell_lt (ac_R1_4 o)) (af_R1_4 o) (below_alloc _ o1); have df_R1_4 := fun o o1 o2 => frz_b (cell_lt (bc_R1_4 o o1)) (bf_R1_4 o o1) (below_alloc _ o2); have af_Rb0_4 := fun o => frz_b (cell_lt (c_Rb0_4)) (f_Rb0_4) (below_alloc _ o); have bf_Rb0_4 := fun o o1 => frz_b (cell_lt (ac_Rb0_4 o)) (af_Rb0_4 o) (below_alloc _ o1); have df_Rb0_4 := fun o o1 o2 => frz_b (cell_lt (bc_Rb0_4 o o1)) (bf_Rb0_4 o o1) (below_alloc _ o2); have af_Rb1_4 := fun o => frz_b (cell_lt (c_Rb1_4)) (f_Rb1_4) (below_alloc _ o); have bf_Rb1_4 := fun o o1 => frz_b (cell_lt (ac_Rb1_4 o)) (af_Rb1_4 o) (below_alloc _ o1); have df_Rb1_4 := fun o o1 o2 => frz_b (cell_lt (bc_Rb1_4 o o1)) (bf_Rb1_4 o o1) (below_alloc _ o2); clear hg c_R0_3 c_R1_3 c_Rb0_3 c_Rb1_3 c_G0_3 c_G1_3 f_R0_3 f_R1_3 f_Rb0_3 f_Rb1_3 r_d_3 hr1 R_3 T_3 ac_R0_3 bc_R0_3 dc_R0_3 ac_R1_3 bc_R1_3 dc_R1_3 ac_Rb0_3 bc_Rb0_3 dc_Rb0_3 ac_Rb1_3 bc_Rb1_3 dc_Rb1_3 ac_G0_3 bc_G0_3 dc_G0_3 ac_G1_3 bc_G1_3 dc_G1_3 af_R0_3 bf_R0_3 df_R0_3 af_R1_3 bf_R1_3 df_R1_3 af_Rb0_3 bf_Rb0_3 df_Rb0_3 af_Rb1_3 bf_Rb1_3 df_Rb1_3 hd2) | (go_at_call 36; (with_reducible refine (S_l2WrongGroup _ (w.heap.size + 2) (0 + 6 + 2) (c2) _ (xs2) (R_4.out) (by omega) (rdb_mono (r_d2_4.out) (by omega)) (by omega)).mono ?_); rintro e w5 ⟨c3, xs3, a3, cap3, rfl, hx3, hd3, hr1, hg⟩; have c_R0_5 := cell_gs (c_R0_4) hg (by show w.heap.size ≠ (w.heap.size + 2); omega); have c_R1_5 := cell_gs (c_R1_4) hg (by show w.heap.size ≠ (w.heap.size + 2); omega); have c_Rb0_5 := cell_gs (c_Rb0_4) hg (by show w.heap.size + 1 ≠ (w.heap.size + 2); omega); have c_Rb1_5 := cell_gs (c_Rb1_4) hg (by show w.heap.size + 1 ≠ (w.heap.size + 2); omega); have c_G0_5 := cell_gs (c_G0_4) hg (by show w2.heap.size ≠ (w.heap.size + 2); omega); have c_G1_5 := cell_gs (c_G1_4) hg (by show w2.heap.size ≠ (w.heap.size + 2); omega); have f_R0_5 := frz_gs (p := ⟨w.heap.size, 0, none⟩) (cell_lt (c_R0_4)) (f_R0_4) hg (by show w.heap.size ≠ (w.heap.size + 2); omega); have f_R1_5 := frz_gs (p := ⟨w.heap.size, 1, none⟩) (cell_lt (c_R1_4)) (f_R1_4) hg (by show w.heap.size ≠ (w.heap.size + 2); omega); have f_Rb0_5 := frz_gs (p := ⟨w.heap.size + 1, 0, none⟩) (cell_lt (c_Rb0_4)) (f_Rb0_4) hg (by show w.heap.size + 1 ≠ (w.heap.size + 2); omega); have f_Rb1_5 := frz_gs (p := ⟨w.heap.size + 1, 1, none⟩) (cell_lt (c_Rb1_4)) (f_Rb1_4) hg (by show w.heap.size + 1 ≠ (w.heap.size + 2); omega); have r_d_5 := Lib.hid (rdb_gs (r_d_4.out) hg (by omega)); have r_d2_5 := Lib.hid (rdb_gs (r_d2_4.out) hg (by omega)); have R_5 := Lib.hid hr1; have T_5 := Lib.hid (gs_below (T_4.out) hg (by first | omega | (simp; done) | (simp; omega)) (by omega)); have z_5 : w4.heap.size ≤ w5.heap.size := (by have := hg.size; (try simp at this); omega); have r_d3_5 := Lib.hid (rdb_mono hd3 (show w4.heap.size ≤ _ by first | omega | (simp; done) | (simp; omega))); have lr_d3 := Lib.hid (rdb_lo r_d3_5.out); have hr_d3 := Lib.hid (rdb_hi r_d3_5.out); have ac_R0_5 := fun o => cell_b (c_R0_5) (below_alloc _ o); have bc_R0_5 := fun o o1 => cell_b (ac_R0_5 o) (below_alloc _ o1); have dc_R0_5 := fun o o1 o2 => cell_b (bc_R0_5 o o1) (below_alloc _ o2); have ac_R1_5 := fun o => cell_b (c_R1_5) (below_alloc _ o); have bc_R1_5 := fun o o1 => cell_b (ac_R1_5 o) (below_alloc _ o1); have dc_R1_5 := fun o o1 o2 => cell_b (bc_R1_5 o o1) (below_alloc _ o2); have ac_Rb0_5 := fun o => cell_b (c_Rb0_5) (below_alloc _ o); have bc_Rb0_5 := fun o o1 => cell_b (ac_Rb0_5 o) (below_alloc _ o1); have dc_Rb0_5 := fun o o1 o2 => cell_b (bc_Rb0_5 o o1) (below_alloc _ o2); have ac_Rb1_5 := fun o => cell_b (c_Rb1_5) (below_alloc _ o); have bc_Rb1_5 := fun o o1 => cell_b (ac_Rb1_5 o) (below_alloc _ o1); have dc_Rb1_5 := fun o o1 o2 => cell_b (bc_Rb1_5 o o1) (below_alloc _ o2); have ac_G0_5 := fun o => cell_b (c_G0_5) (below_alloc _ o); have bc_G0_5 := fun o o1 => cell_b (ac_G0_5 o) (below_alloc _ o1); have dc_G0_5 := fun o o1 o2 => cell_b (bc_G0_5 o o1) (below_alloc _ o2); have ac_G1_5 := fun o => cell_b (c_G1_5) (below_alloc _ o); have bc_G1_5 := fun o o1 => cell_b (ac_G1_5 o) (below_alloc _ o1); have dc_G1_5 := fun o o1 o2 => cell_b (bc_G1_5 o o1) (below_alloc _ o2); have af_R0_5 := fun o => frz_b (cell_lt (c_R0_5)) (f_R0_5) (below_alloc _ o); have bf_R0_5 := fun o o1 => frz_b (cell_lt (ac_R0_5 o)) (af_R0_5 o) (below_alloc _ o1); have df_R0_5 := fun o o1 o2 => frz_b (cell_lt (bc_R0_5 o o1)) (bf_R0_5 o o1) (below_alloc _ o2); have af_R1_5 := fun o => frz_b (cell_lt (c_R1_5)) (f_R1_5) (below_alloc _ o); have bf_R1_5 := fun o o1 => frz_b (cell_lt (ac_R1_5 o)) (af_R1_5 o) (below_alloc _ o1); have df_R1_5 := fun o o1 o2 => frz_b (cell_lt (bc_R1_5 o o1)) (bf_R1_5 o o1) (below_alloc _ o2); have af_Rb0_5 := fun o => frz_b (cell_lt (c_Rb0_5)) (f_Rb0_5) (below_alloc _ o); have bf_Rb0_5 := fun o o1 => frz_b (cell_lt (ac_Rb0_5 o)) (af_Rb0_5 o) (below_alloc _ o1); have df_Rb0_5 := fun o o1 o2 => frz_b (cell_lt (bc_Rb0_5 o o1)) (bf_Rb0_5 o o1) (below_alloc _ o2); have af_Rb1_5 := fun o => frz_b (cell_lt (c_Rb1_5)) (f_Rb1_5) (below_alloc _ o); have bf_Rb1_5 := fun o o1 => frz_b (cell_lt (ac_Rb1_5 o)) (af_Rb1_5 o) (below_alloc _ o1); have df_Rb1_5 := fun o o1 o2 => frz_b (cell_lt (bc_Rb1_5 o o1)) (bf_Rb1_5 o o1) (below_alloc _ o2); clear hg c_R0_4 c_R1_4 c_Rb0_4 c_Rb1_4 c_G0_4 c_G1_4 f_R0_4 f_R1_4 f_Rb0_4 f_Rb1_4 r_d_4 r_d2_4 hr1 R_4 T_4 ac_R0_4 bc_R0_4 dc_R0_4 ac_R1_4 bc_R1_4 dc_R1_4 ac_Rb0_4 bc_Rb0_4 dc_Rb0_4 ac_Rb1_4 bc_Rb1_4 dc_Rb1_4 ac_G0_4 bc_G0_4 dc_G0_4 ac_G1_4 bc_G1_4 dc_G1_4 af_R0_4 bf_R0_4 df_R0_4 af_R1_4 bf_R1_4 df_R1_4 af_Rb0_4 bf_Rb0_4 df_Rb0_4 af_Rb1_4 bf_Rb1_4 df_Rb1_4 hd3))
    go_wp2_with fail
    refine bodyPost_ret (v := .tuple #[.agg #[.int .i64 c, .slice a xs.length cap], .agg #[.int .i64 c3, .slice a3 xs3.length cap3]]) (by simp [results, Try.results12, go_sem, c_R0_5, c_R1_5, c_Rb0_5, c_Rb1_5]) rfl ⟨c, xs, a, cap, c3, xs3, a3, cap3, rfl, by omega, by omega, rdb_mono (rdb_set (p := ⟨w.heap.size + 1, 1, none⟩) (rdb_set (p := ⟨w.heap.size + 1, 0, none⟩) (rdb_set (p := ⟨w.heap.size, 1, none⟩) (rdb_set (p := ⟨w.heap.size, 0, none⟩) (r_d_5.out) (fun g h => by have h1 := lr_d.out g h; have h2 := hr_d.out g h; show g ≠ w.heap.size; omega) _) (fun g h => by have h1 := lr_d.out g h; have h2 := hr_d.out g h; show g ≠ w.heap.size; omega) _) (fun g h => by have h1 := lr_d.out g h; have h2 := hr_d.out g h; show g ≠ w.heap.size + 1; omega) _) (fun g h => by have h1 := lr_d.out g h; have h2 := hr_d.out g h; show g ≠ w.heap.size + 1; omega) _) (by omega), rdb_mono (rdb_set (p := ⟨w.heap.size + 1, 1, none⟩) (rdb_set (p := ⟨w.heap.size + 1, 0, none⟩) (rdb_set (p := ⟨w.heap.size, 1, none⟩) (rdb_set (p := ⟨w.heap.size, 0, none⟩) (r_d3_5.out) (fun g h => by have h1 := lr_d3.out g h; have h2 := hr_d3.out g h; show g ≠ w.heap.size; omega) _) (fun g h => by have h1 := lr_d3.out g h; have h2 := hr_d3.out g h; show g ≠ w.heap.size; omega) _) (fun g h => by have h1 := lr_d3.out g h; have h2 := hr_d3.out g h; show g ≠ w.heap.size + 1; omega) _) (fun g h => by have h1 := lr_d3.out g h; have h2 := hr_d3.out g h; show g ≠ w.heap.size + 1; omega) _) (by omega), (((((T_5.out).setCell (p := ⟨w.heap.size, 0, none⟩) (by show w.heap.size ≤ w.heap.size; omega) _).setCell (p := ⟨w.heap.size, 1, none⟩) (by show w.heap.size ≤ w.heap.size; omega) _).setCell (p := ⟨w.heap.size + 1, 0, none⟩) (by show w.heap.size ≤ w.heap.size + 1; omega) _).setCell (p := ⟨w.heap.size + 1, 1, none⟩) (by show w.heap.size ≤ w.heap.size + 1; omega) _)⟩
end Go.Proofs.Ytgdhbhgkfcgjdaa
