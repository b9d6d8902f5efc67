/- What the draws of barriers hand back: some value that can be read. -/
import Derived.Test.YtkglngcopflgeaaGuard
import Derived.Test.YtkglngcopflgeaaDrawCond
import Derived.Test.YtkglngcopflgeaaDrawBarrier
import Derived.Deep.RegionHeld3
import Derived.Deep.RegionLaw
import Derived.Deep.DrawnRows
namespace Go.Proofs.Ytkglngcopflgeaa
open Go.RowKit
attribute [local go_sem ↓] Go.wp_at_zero Go.wp_at_succ

/-- A barrier and a thread, drawn from a code. -/
def CodeBar (w : World) (e : Ending) (w' : World) : Prop :=
  ∃ (p m : Int) (xs : List Int) (t : Int) (a : Option Addr) (cap : Nat), e = .returned (.tuple #[.agg #[.int .i64 p, .int .i64 m, .slice a xs.length cap], .int .i64 t]) ∧ xs.length ≤ 12 ∧ RdB w' w.heap.size (.slice a xs.length cap) xs ∧ Below w.heap.size w w'
set_option maxHeartbeats 4000000 in
set_option maxRecDepth 100000 in
theorem S_DrawArrive (w : World) (v : Value) (n : Nat) (hv : RdY w v n) (hn : n ≤ 4294967296) : Calls Try.prog 32 #[v] w (CodeBar w) := by
  go_enter Try.func32, Try.ntmps32
  have T_0 : Hid (Below w.heap.size w w) := Lib.hid (Below.refl _ _)
  go_wp2_with fail
  (with_reducible refine (S_l13Open _ _ n (rdy_b hv (below_alloc _ _)) hn).mono ?_)
  rintro e w1 ⟨q, hq, rfl, hr1, hb⟩
  (try simp at hq)
  subst hq
  have zr := rdr_lt hr1
  have c_R0_1 := cell_b (p := ⟨w.heap.size, 0, none⟩) (v := .int .i64 0) (by simp) hb
  have f_R0_1 := frz_b (p := ⟨w.heap.size, 0, none⟩) (by first | omega | (simp; done) | (simp; omega)) (show _ = false by simp) hb
  have c_R1_1 := cell_b (p := ⟨w.heap.size, 1, none⟩) (v := .int .i64 0) (by simp) hb
  have f_R1_1 := frz_b (p := ⟨w.heap.size, 1, none⟩) (by first | omega | (simp; done) | (simp; omega)) (show _ = false by simp) hb
  have c_R2_1 := cell_b (p := ⟨w.heap.size, 2, none⟩) (v := .slice none 0 0) (by simp) hb
  have f_R2_1 := frz_b (p := ⟨w.heap.size, 2, none⟩) (by first | omega | (simp; done) | (simp; omega)) (show _ = false by simp) hb
  have R_1 := Lib.hid hr1
  have T_1 := Lib.hid (below_trans (below_trans (T_0.out) (below_alloc _ _)) hb)
  have z_1 : w.heap.size + 1 ≤ w1.heap.size := (by have := hb.size; (try simp at this); omega)
  have ac_R0_1 := fun o => cell_b (c_R0_1) (below_alloc _ o)
  have bc_R0_1 := fun o o1 => cell_b (ac_R0_1 o) (below_alloc _ o1)
  have ac_R1_1 := fun o => cell_b (c_R1_1) (below_alloc _ o)
  have bc_R1_1 := fun o o1 => cell_b (ac_R1_1 o) (below_alloc _ o1)
  have ac_R2_1 := fun o => cell_b (c_R2_1) (below_alloc _ o)
  have bc_R2_1 := fun o o1 => cell_b (ac_R2_1 o) (below_alloc _ o1)
  have af_R0_1 := fun o => frz_b (cell_lt (c_R0_1)) (f_R0_1) (below_alloc _ o)
  have bf_R0_1 := fun o o1 => frz_b (cell_lt (ac_R0_1 o)) (af_R0_1 o) (below_alloc _ o1)
  have af_R1_1 := fun o => frz_b (cell_lt (c_R1_1)) (f_R1_1) (below_alloc _ o)
  have bf_R1_1 := fun o o1 => frz_b (cell_lt (ac_R1_1 o)) (af_R1_1 o) (below_alloc _ o1)
  have af_R2_1 := fun o => frz_b (cell_lt (c_R2_1)) (f_R2_1) (below_alloc _ o)
  have bf_R2_1 := fun o o1 => frz_b (cell_lt (ac_R2_1 o)) (af_R2_1 o) (below_alloc _ o1)
  clear hb hr1 T_0
  go_wp2_with fail
  (with_reducible refine (S_l3Barrier _ _ 0 (R_1.out) (by omega)).mono ?_)
  rintro e w2 ⟨p, m, xs, a, cap, rfl, hx, hd, hr1, hg⟩
  have c_R0_2 := cell_gs (c_R0_1) hg (by show w.heap.size ≠ (w.heap.size + 1); omega)
  have c_R1_2 := cell_gs (c_R1_1) hg (by show w.heap.size ≠ (w.heap.size + 1); omega)
  have c_R2_2 := cell_gs (c_R2_1) hg (by show w.heap.size ≠ (w.heap.size + 1); omega)
  have f_R0_2 := frz_gs (p := ⟨w.heap.size, 0, none⟩) (cell_lt (c_R0_1)) (f_R0_1) hg (by show w.heap.size ≠ (w.heap.size + 1); omega)
  have f_R1_2 := frz_gs (p := ⟨w.heap.size, 1, none⟩) (cell_lt (c_R1_1)) (f_R1_1) hg (by show w.heap.size ≠ (w.heap.size + 1); omega)
  have f_R2_2 := frz_gs (p := ⟨w.heap.size, 2, none⟩) (cell_lt (c_R2_1)) (f_R2_1) hg (by show w.heap.size ≠ (w.heap.size + 1); omega)
  have R_2 := Lib.hid hr1
  have T_2 := Lib.hid (gs_below (T_1.out) hg (by first | omega | (simp; done) | (simp; omega)) (by omega))
  have z_2 : w1.heap.size ≤ w2.heap.size := (by have := hg.size; (try simp at this); omega)
  have r_d_2 := Lib.hid (rdb_mono hd (show w1.heap.size ≤ _ by first | omega | (simp; done) | (simp; omega)))
  have lr_d := Lib.hid (rdb_lo r_d_2.out)
  have hr_d := Lib.hid (rdb_hi r_d_2.out)
  have ac_R0_2 := fun o => cell_b (c_R0_2) (below_alloc _ o)
  have bc_R0_2 := fun o o1 => cell_b (ac_R0_2 o) (below_alloc _ o1)
  have ac_R1_2 := fun o => cell_b (c_R1_2) (below_alloc _ o)
  have bc_R1_2 := fun o o1 => cell_b (ac_R1_2 o) (below_alloc _ o1)
  have ac_R2_2 := fun o => cell_b (c_R2_2) (below_alloc _ o)
  have bc_R2_2 := fun o o1 => cell_b (ac_R2_2 o) (below_alloc _ o1)
  have af_R0_2 := fun o => frz_b (cell_lt (c_R0_2)) (f_R0_2) (below_alloc _ o)
  have bf_R0_2 := fun o o1 => frz_b (cell_lt (ac_R0_2 o)) (af_R0_2 o) (below_alloc _ o1)
  have af_R1_2 := fun o => frz_b (cell_lt (c_R1_2)) (f_R1_2) (below_alloc _ o)
  have bf_R1_2 := fun o o1 => frz_b (cell_lt (ac_R1_2 o)) (af_R1_2 o) (below_alloc _ o1)
  have af_R2_2 := fun o => frz_b (cell_lt (c_R2_2)) (f_R2_2) (below_alloc _ o)
  have bf_R2_2 := fun o o1 => frz_b (cell_lt (ac_R2_2 o)) (af_R2_2 o) (below_alloc _ o1)
  clear hg c_R0_1 c_R1_1 c_R2_1 f_R0_1 f_R1_1 f_R2_1 hr1 R_1 T_1 ac_R0_1 bc_R0_1 ac_R1_1 bc_R1_1 ac_R2_1 bc_R2_1 af_R0_1 bf_R0_1 af_R1_1 bf_R1_1 af_R2_1 bf_R2_1 hd
  go_wp2_with fail
  (with_reducible refine (S_num _ (w.heap.size + 1) _ [0, 1, 2, 3, 4, 5, 6] (0 + 8) (rdr_b (R_2.out) (below_alloc _ _)) (by omega) (rdb_lit _ #[.int .i64 0, .int .i64 1, .int .i64 2, .int .i64 3, .int .i64 4, .int .i64 5, .int .i64 6] [0, 1, 2, 3, 4, 5, 6] rfl ((w.heap.size + 1) + 1) (w2.heap.size) 7 (by first | rfl | simp) rfl (by first | omega | (simp; omega))) (by decide) (by decide)).mono ?_)
  rintro e w3 ⟨t, rfl, ht, hr1, hg⟩
  have c_R0_3 := cell_gs (cell_b (c_R0_2) (below_alloc _ _)) hg (by show w.heap.size ≠ (w.heap.size + 1); omega)
  have c_R1_3 := cell_gs (cell_b (c_R1_2) (below_alloc _ _)) hg (by show w.heap.size ≠ (w.heap.size + 1); omega)
  have c_R2_3 := cell_gs (cell_b (c_R2_2) (below_alloc _ _)) hg (by show w.heap.size ≠ (w.heap.size + 1); omega)
  have f_R0_3 := frz_gs (p := ⟨w.heap.size, 0, none⟩) (cell_lt (cell_b (c_R0_2) (below_alloc _ _))) (frz_b (cell_lt (c_R0_2)) (f_R0_2) (below_alloc _ _)) hg (by show w.heap.size ≠ (w.heap.size + 1); omega)
  have f_R1_3 := frz_gs (p := ⟨w.heap.size, 1, none⟩) (cell_lt (cell_b (c_R1_2) (below_alloc _ _))) (frz_b (cell_lt (c_R1_2)) (f_R1_2) (below_alloc _ _)) hg (by show w.heap.size ≠ (w.heap.size + 1); omega)
  have f_R2_3 := frz_gs (p := ⟨w.heap.size, 2, none⟩) (cell_lt (cell_b (c_R2_2) (below_alloc _ _))) (frz_b (cell_lt (c_R2_2)) (f_R2_2) (below_alloc _ _)) hg (by show w.heap.size ≠ (w.heap.size + 1); omega)
  have r_d_3 := Lib.hid (rdb_gs (rdb_b (r_d_2.out) (below_alloc _ _)) hg (by omega))
  have R_3 := Lib.hid hr1
  have T_3 := Lib.hid (gs_below (below_trans (T_2.out) (below_alloc _ _)) hg (by first | omega | (simp; done) | (simp; omega)) (by omega))
  have z_3 : w2.heap.size + 1 ≤ w3.heap.size := (by have := hg.size; (try simp at this); omega)
  have ac_R0_3 := fun o => cell_b (c_R0_3) (below_alloc _ o)
  have bc_R0_3 := fun o o1 => cell_b (ac_R0_3 o) (below_alloc _ o1)
  have ac_R1_3 := fun o => cell_b (c_R1_3) (below_alloc _ o)
  have bc_R1_3 := fun o o1 => cell_b (ac_R1_3 o) (below_alloc _ o1)
  have ac_R2_3 := fun o => cell_b (c_R2_3) (below_alloc _ o)
  have bc_R2_3 := fun o o1 => cell_b (ac_R2_3 o) (below_alloc _ o1)
  have af_R0_3 := fun o => frz_b (cell_lt (c_R0_3)) (f_R0_3) (below_alloc _ o)
  have bf_R0_3 := fun o o1 => frz_b (cell_lt (ac_R0_3 o)) (af_R0_3 o) (below_alloc _ o1)
  have af_R1_3 := fun o => frz_b (cell_lt (c_R1_3)) (f_R1_3) (below_alloc _ o)
  have bf_R1_3 := fun o o1 => frz_b (cell_lt (ac_R1_3 o)) (af_R1_3 o) (below_alloc _ o1)
  have af_R2_3 := fun o => frz_b (cell_lt (c_R2_3)) (f_R2_3) (below_alloc _ o)
  have bf_R2_3 := fun o o1 => frz_b (cell_lt (ac_R2_3 o)) (af_R2_3 o) (below_alloc _ o1)
  clear hg c_R0_2 c_R1_2 c_R2_2 f_R0_2 f_R1_2 f_R2_2 r_d_2 hr1 R_2 T_2 ac_R0_2 bc_R0_2 ac_R1_2 bc_R1_2 ac_R2_2 bc_R2_2 af_R0_2 bf_R0_2 af_R1_2 bf_R1_2 af_R2_2 bf_R2_2 ht
  go_wp2_with fail
  refine bodyPost_ret (v := .tuple #[.agg #[.int .i64 p, .int .i64 m, .slice a xs.length cap], .int .i64 t]) (by simp [results, Try.results32, go_sem, c_R0_3, c_R1_3, c_R2_3]) rfl ⟨p, m, xs, t, a, cap, rfl, by omega, rdb_mono (rdb_set (p := ⟨w.heap.size, 2, none⟩) (rdb_set (p := ⟨w.heap.size, 1, none⟩) (rdb_set (p := ⟨w.heap.size, 0, none⟩) (r_d_3.out) (fun g h => by have h1 := lr_d.out g h; have h2 := hr_d.out g h; show g ≠ w.heap.size; omega) _) (fun g h => by have h1 := lr_d.out g h; have h2 := hr_d.out g h; show g ≠ w.heap.size; omega) _) (fun g h => by have h1 := lr_d.out g h; have h2 := hr_d.out g h; show g ≠ w.heap.size; omega) _) (by omega), ((((T_3.out).setCell (p := ⟨w.heap.size, 0, none⟩) (by show w.heap.size ≤ w.heap.size; omega) _).setCell (p := ⟨w.heap.size, 1, none⟩) (by show w.heap.size ≤ w.heap.size; omega) _).setCell (p := ⟨w.heap.size, 2, none⟩) (by show w.heap.size ≤ w.heap.size; omega) _)⟩
end Go.Proofs.Ytkglngcopflgeaa
