/- What the draws of onces hand back: some value that can be read. -/
import Derived.Test.YtgdhbhgkfcgjdaaGuard
import Derived.Test.YtgdhbhgkfcgjdaaEnterOnce
import Derived.Test.YtgdhbhgkfcgjdaaQuickOnce
import Derived.Deep.RegionHeld3
import Derived.Deep.RegionLaw
import Derived.Deep.DrawnRows
namespace Go.Proofs.Ytgdhbhgkfcgjdaa
open Go.RowKit
attribute [local go_sem ↓] Go.wp_at_zero Go.wp_at_succ


/-- A once, sometimes turned. -/
def OnceW (w : World) (r N : Nat) (m : Nat) (e : Ending) (w' : World) : Prop :=
  ∃ (s o v : Int) (xs : List Int) (a : Option Addr) (cap : Nat), e = .returned (.agg #[.int .i64 s, .int .i64 o, .int .i64 v, .slice a xs.length cap]) ∧ xs.length ≤ m + 1 ∧ RdB w' w.heap.size (.slice a xs.length cap) xs ∧ Rdr w' r (N + 2) ∧ w.grownBy w' (some r)
set_option maxHeartbeats 4000000 in
set_option maxRecDepth 100000 in
theorem S_l2WrongOnce (w : World) (r N : Nat) (s o k : Int) (v : Value) (xs : List Int) (hr : Rdr w r N) (hN : N ≤ 10000) (hv : RdB w (r + 1) v xs) (hl : xs.length ≤ 900) :
    Calls Try.prog 50 #[.pointer (some ⟨r, 0, none⟩), .agg #[.int .i64 s, .int .i64 o, .int .i64 k, v]] w (OnceW w r N xs.length) := by
  obtain ⟨i0, hi, hz0, hz1, hz2⟩ := info_parts info3
  have R_0 := Lib.hid hr
  have hrw := rdr_lt hr
  have r_d_0 := Lib.hid hv
  have lr_d := Lib.hid (rdb_lo hv)
  have hr_d := Lib.hid (rdb_hi hv)
  obtain ⟨⟨a, cap, rfl, hcap, hnc, hc⟩, hb⟩ := hv
  clear hr hnc hc hb
  go_enter Try.func50, Try.ntmps50
  have T_0 : Hid (w.grownBy w (some r)) := Lib.hid (gs_refl _ _)
  go_wp2_with fail
  (with_reducible refine (S_l2Once _ s o k _ xs (rdb_mono (rdb_b (rdb_b (r_d_0.out) (below_alloc _ _)) (below_alloc _ _)) (by omega)) (by omega)).mono ?_)
  rintro e w1 ⟨a1, cap1, rfl, hd, hb⟩
  have c_A0_1 := cell_b (p := ⟨w.heap.size, 0, none⟩) (v := .int .i64 s) (by first | (simp; done) | (simp [World.cell?_alloc_past, World.cell?_alloc_at]; done)) hb
  have c_A1_1 := cell_b (p := ⟨w.heap.size, 1, none⟩) (v := .int .i64 o) (by first | (simp; done) | (simp [World.cell?_alloc_past, World.cell?_alloc_at]; done)) hb
  have c_A2_1 := cell_b (p := ⟨w.heap.size, 2, none⟩) (v := .int .i64 k) (by first | (simp; done) | (simp [World.cell?_alloc_past, World.cell?_alloc_at]; done)) hb
  have c_A3_1 := cell_b (p := ⟨w.heap.size, 3, none⟩) (v := .slice a xs.length cap) (by first | (simp; done) | (simp [World.cell?_alloc_past, World.cell?_alloc_at]; done)) hb
  have c_R0_1 := cell_b (p := ⟨w.heap.size + 1, 0, none⟩) (v := .int .i64 0) (by first | (simp; done) | (simp [World.cell?_alloc_past, World.cell?_alloc_at]; done)) hb
  have f_R0_1 := frz_b (p := ⟨w.heap.size + 1, 0, none⟩) (by first | omega | (simp; done) | (simp; omega)) (show _ = false by first | (simp; done) | (simp [World.frozen?_alloc_past, World.frozen?_alloc_at]; done)) hb
  have c_R1_1 := cell_b (p := ⟨w.heap.size + 1, 1, none⟩) (v := .int .i64 0) (by first | (simp; done) | (simp [World.cell?_alloc_past, World.cell?_alloc_at]; done)) hb
  have f_R1_1 := frz_b (p := ⟨w.heap.size + 1, 1, none⟩) (by first | omega | (simp; done) | (simp; omega)) (show _ = false by first | (simp; done) | (simp [World.frozen?_alloc_past, World.frozen?_alloc_at]; done)) hb
  have c_R2_1 := cell_b (p := ⟨w.heap.size + 1, 2, none⟩) (v := .int .i64 0) (by first | (simp; done) | (simp [World.cell?_alloc_past, World.cell?_alloc_at]; done)) hb
  have f_R2_1 := frz_b (p := ⟨w.heap.size + 1, 2, none⟩) (by first | omega | (simp; done) | (simp; omega)) (show _ = false by first | (simp; done) | (simp [World.frozen?_alloc_past, World.frozen?_alloc_at]; done)) hb
  have c_R3_1 := cell_b (p := ⟨w.heap.size + 1, 3, none⟩) (v := .slice none 0 0) (by first | (simp; done) | (simp [World.cell?_alloc_past, World.cell?_alloc_at]; done)) hb
  have f_R3_1 := frz_b (p := ⟨w.heap.size + 1, 3, none⟩) (by first | omega | (simp; done) | (simp; omega)) (show _ = false by first | (simp; done) | (simp [World.frozen?_alloc_past, World.frozen?_alloc_at]; done)) hb
  have r_d_1 := Lib.hid (rdb_b (rdb_b (rdb_b (r_d_0.out) (below_alloc _ _)) (below_alloc _ _)) hb)
  have R_1 := Lib.hid (rdr_b (rdr_b (rdr_b (R_0.out) (below_alloc _ _)) (below_alloc _ _)) hb)
  have T_1 := Lib.hid (gs_trans (gs_trans (gs_trans (T_0.out) (gs_b (below_alloc _ _))) (gs_b (below_alloc _ _))) (gs_b hb))
  have z_1 : w.heap.size + 2 ≤ w1.heap.size := (by have := hb.size; (try simp at this); omega)
  have o_e_1 := Lib.hid (own_base hd (show w.heap.size + 2 ≤ _ by first | omega | (simp; done) | (simp; omega)))
  have lo_e := Lib.hid (own_lo o_e_1.out)
  have hi_e := Lib.hid (own_hi o_e_1.out)
  have ac_A0_1 := fun o => cell_b (c_A0_1) (below_alloc _ o)
  have bc_A0_1 := fun o o1 => cell_b (ac_A0_1 o) (below_alloc _ o1)
  have ac_A1_1 := fun o => cell_b (c_A1_1) (below_alloc _ o)
  have bc_A1_1 := fun o o1 => cell_b (ac_A1_1 o) (below_alloc _ o1)
  have ac_A2_1 := fun o => cell_b (c_A2_1) (below_alloc _ o)
  have bc_A2_1 := fun o o1 => cell_b (ac_A2_1 o) (below_alloc _ o1)
  have ac_A3_1 := fun o => cell_b (c_A3_1) (below_alloc _ o)
  have bc_A3_1 := fun o o1 => cell_b (ac_A3_1 o) (below_alloc _ o1)
  have ac_R0_1 := fun o => cell_b (c_R0_1) (below_alloc _ o)
  have bc_R0_1 := fun o o1 => cell_b (ac_R0_1 o) (below_alloc _ o1)
  have ac_R1_1 := fun o => cell_b (c_R1_1) (below_alloc _ o)
  have bc_R1_1 := fun o o1 => cell_b (ac_R1_1 o) (below_alloc _ o1)
  have ac_R2_1 := fun o => cell_b (c_R2_1) (below_alloc _ o)
  have bc_R2_1 := fun o o1 => cell_b (ac_R2_1 o) (below_alloc _ o1)
  have ac_R3_1 := fun o => cell_b (c_R3_1) (below_alloc _ o)
  have bc_R3_1 := fun o o1 => cell_b (ac_R3_1 o) (below_alloc _ o1)
  have af_R0_1 := fun o => frz_b (cell_lt (c_R0_1)) (f_R0_1) (below_alloc _ o)
  have bf_R0_1 := fun o o1 => frz_b (cell_lt (ac_R0_1 o)) (af_R0_1 o) (below_alloc _ o1)
  have af_R1_1 := fun o => frz_b (cell_lt (c_R1_1)) (f_R1_1) (below_alloc _ o)
  have bf_R1_1 := fun o o1 => frz_b (cell_lt (ac_R1_1 o)) (af_R1_1 o) (below_alloc _ o1)
  have af_R2_1 := fun o => frz_b (cell_lt (c_R2_1)) (f_R2_1) (below_alloc _ o)
  have bf_R2_1 := fun o o1 => frz_b (cell_lt (ac_R2_1 o)) (af_R2_1 o) (below_alloc _ o1)
  have af_R3_1 := fun o => frz_b (cell_lt (c_R3_1)) (f_R3_1) (below_alloc _ o)
  have bf_R3_1 := fun o o1 => frz_b (cell_lt (ac_R3_1 o)) (af_R3_1 o) (below_alloc _ o1)
  clear hb r_d_0 R_0 T_0 hd
  clear c_A0_1 ac_A0_1 bc_A0_1 c_A1_1 ac_A1_1 bc_A1_1 c_A2_1 ac_A2_1 bc_A2_1 c_A3_1 ac_A3_1 bc_A3_1 r_d_1 lr_d hr_d
  go_wp2_with fail
  (with_reducible refine (S_pick _ r _ _ (rdr_b (R_1.out) (below_alloc _ _)) (by omega) (by omega)).mono ?_)
  rintro e w2 ⟨x, rfl, hx0, hx1, hr1, hg⟩
  have c_R0_2 := cell_gs (cell_b (c_R0_1) (below_alloc _ _)) hg (by show w.heap.size + 1 ≠ r; omega)
  have c_R1_2 := cell_gs (cell_b (c_R1_1) (below_alloc _ _)) hg (by show w.heap.size + 1 ≠ r; omega)
  have c_R2_2 := cell_gs (cell_b (c_R2_1) (below_alloc _ _)) hg (by show w.heap.size + 1 ≠ r; omega)
  have c_R3_2 := cell_gs (cell_b (c_R3_1) (below_alloc _ _)) hg (by show w.heap.size + 1 ≠ r; omega)
  have f_R0_2 := frz_gs (p := ⟨w.heap.size + 1, 0, none⟩) (cell_lt (cell_b (c_R0_1) (below_alloc _ _))) (frz_b (cell_lt (c_R0_1)) (f_R0_1) (below_alloc _ _)) hg (by show w.heap.size + 1 ≠ r; omega)
  have f_R1_2 := frz_gs (p := ⟨w.heap.size + 1, 1, none⟩) (cell_lt (cell_b (c_R1_1) (below_alloc _ _))) (frz_b (cell_lt (c_R1_1)) (f_R1_1) (below_alloc _ _)) hg (by show w.heap.size + 1 ≠ r; omega)
  have f_R2_2 := frz_gs (p := ⟨w.heap.size + 1, 2, none⟩) (cell_lt (cell_b (c_R2_1) (below_alloc _ _))) (frz_b (cell_lt (c_R2_1)) (f_R2_1) (below_alloc _ _)) hg (by show w.heap.size + 1 ≠ r; omega)
  have f_R3_2 := frz_gs (p := ⟨w.heap.size + 1, 3, none⟩) (cell_lt (cell_b (c_R3_1) (below_alloc _ _))) (frz_b (cell_lt (c_R3_1)) (f_R3_1) (below_alloc _ _)) hg (by show w.heap.size + 1 ≠ r; omega)
  have c_O0_2 := cell_gs (p := ⟨w1.heap.size, 0, none⟩) (v := .int .i64 s) (by first | (simp; done) | (simp [World.cell?_alloc_past, World.cell?_alloc_at]; done)) hg (by show w1.heap.size ≠ r; omega)
  have f_O0_2 := frz_gs (p := ⟨w1.heap.size, 0, none⟩) (by first | omega | (simp; done) | (simp; omega)) (show _ = false by first | (simp; done) | (simp [World.frozen?_alloc_past, World.frozen?_alloc_at]; done)) hg (by show w1.heap.size ≠ r; omega)
  have c_O1_2 := cell_gs (p := ⟨w1.heap.size, 1, none⟩) (v := .int .i64 o) (by first | (simp; done) | (simp [World.cell?_alloc_past, World.cell?_alloc_at]; done)) hg (by show w1.heap.size ≠ r; omega)
  have f_O1_2 := frz_gs (p := ⟨w1.heap.size, 1, none⟩) (by first | omega | (simp; done) | (simp; omega)) (show _ = false by first | (simp; done) | (simp [World.frozen?_alloc_past, World.frozen?_alloc_at]; done)) hg (by show w1.heap.size ≠ r; omega)
  have c_O2_2 := cell_gs (p := ⟨w1.heap.size, 2, none⟩) (v := .int .i64 k) (by first | (simp; done) | (simp [World.cell?_alloc_past, World.cell?_alloc_at]; done)) hg (by show w1.heap.size ≠ r; omega)
  have f_O2_2 := frz_gs (p := ⟨w1.heap.size, 2, none⟩) (by first | omega | (simp; done) | (simp; omega)) (show _ = false by first | (simp; done) | (simp [World.frozen?_alloc_past, World.frozen?_alloc_at]; done)) hg (by show w1.heap.size ≠ r; omega)
  have c_O3_2 := cell_gs (p := ⟨w1.heap.size, 3, none⟩) (v := .slice a1 xs.length cap1) (by first | (simp; done) | (simp [World.cell?_alloc_past, World.cell?_alloc_at]; done)) hg (by show w1.heap.size ≠ r; omega)
  have f_O3_2 := frz_gs (p := ⟨w1.heap.size, 3, none⟩) (by first | omega | (simp; done) | (simp; omega)) (show _ = false by first | (simp; done) | (simp [World.frozen?_alloc_past, World.frozen?_alloc_at]; done)) hg (by show w1.heap.size ≠ r; omega)
  have o_e_2 := Lib.hid (own_gr (own_below (o_e_1.out) (below_alloc _ _)) hg (fun g g' h h' => by injection h with h; have h3 := lo_e.out g' h'; omega))
  have R_2 := Lib.hid hr1
  have T_2 := Lib.hid (gs_trans (gs_trans (T_1.out) (gs_b (below_alloc _ _))) hg)
  have z_2 : w1.heap.size + 1 ≤ w2.heap.size := (by have := hg.size; (try simp at this); omega)
  have ac_R0_2 := fun o => cell_b (c_R0_2) (below_alloc _ o)
  have bc_R0_2 := fun o o1 => cell_b (ac_R0_2 o) (below_alloc _ o1)
  have ac_R1_2 := fun o => cell_b (c_R1_2) (below_alloc _ o)
  have bc_R1_2 := fun o o1 => cell_b (ac_R1_2 o) (below_alloc _ o1)
  have ac_R2_2 := fun o => cell_b (c_R2_2) (below_alloc _ o)
  have bc_R2_2 := fun o o1 => cell_b (ac_R2_2 o) (below_alloc _ o1)
  have ac_R3_2 := fun o => cell_b (c_R3_2) (below_alloc _ o)
  have bc_R3_2 := fun o o1 => cell_b (ac_R3_2 o) (below_alloc _ o1)
  have ac_O0_2 := fun o => cell_b (c_O0_2) (below_alloc _ o)
  have bc_O0_2 := fun o o1 => cell_b (ac_O0_2 o) (below_alloc _ o1)
  have ac_O1_2 := fun o => cell_b (c_O1_2) (below_alloc _ o)
  have bc_O1_2 := fun o o1 => cell_b (ac_O1_2 o) (below_alloc _ o1)
  have ac_O2_2 := fun o => cell_b (c_O2_2) (below_alloc _ o)
  have bc_O2_2 := fun o o1 => cell_b (ac_O2_2 o) (below_alloc _ o1)
  have ac_O3_2 := fun o => cell_b (c_O3_2) (below_alloc _ o)
  have bc_O3_2 := fun o o1 => cell_b (ac_O3_2 o) (below_alloc _ o1)
  have af_R0_2 := fun o => frz_b (cell_lt (c_R0_2)) (f_R0_2) (below_alloc _ o)
  have bf_R0_2 := fun o o1 => frz_b (cell_lt (ac_R0_2 o)) (af_R0_2 o) (below_alloc _ o1)
  have af_R1_2 := fun o => frz_b (cell_lt (c_R1_2)) (f_R1_2) (below_alloc _ o)
  have bf_R1_2 := fun o o1 => frz_b (cell_lt (ac_R1_2 o)) (af_R1_2 o) (below_alloc _ o1)
  have af_R2_2 := fun o => frz_b (cell_lt (c_R2_2)) (f_R2_2) (below_alloc _ o)
  have bf_R2_2 := fun o o1 => frz_b (cell_lt (ac_R2_2 o)) (af_R2_2 o) (below_alloc _ o1)
  have af_R3_2 := fun o => frz_b (cell_lt (c_R3_2)) (f_R3_2) (below_alloc _ o)
  have bf_R3_2 := fun o o1 => frz_b (cell_lt (ac_R3_2 o)) (af_R3_2 o) (below_alloc _ o1)
  have af_O0_2 := fun o => frz_b (cell_lt (c_O0_2)) (f_O0_2) (below_alloc _ o)
  have bf_O0_2 := fun o o1 => frz_b (cell_lt (ac_O0_2 o)) (af_O0_2 o) (below_alloc _ o1)
  have af_O1_2 := fun o => frz_b (cell_lt (c_O1_2)) (f_O1_2) (below_alloc _ o)
  have bf_O1_2 := fun o o1 => frz_b (cell_lt (ac_O1_2 o)) (af_O1_2 o) (below_alloc _ o1)
  have af_O2_2 := fun o => frz_b (cell_lt (c_O2_2)) (f_O2_2) (below_alloc _ o)
  have bf_O2_2 := fun o o1 => frz_b (cell_lt (ac_O2_2 o)) (af_O2_2 o) (below_alloc _ o1)
  have af_O3_2 := fun o => frz_b (cell_lt (c_O3_2)) (f_O3_2) (below_alloc _ o)
  have bf_O3_2 := fun o o1 => frz_b (cell_lt (ac_O3_2 o)) (af_O3_2 o) (below_alloc _ o1)
  clear hg c_R0_1 c_R1_1 c_R2_1 c_R3_1 f_R0_1 f_R1_1 f_R2_1 f_R3_1 o_e_1 hr1 R_1 T_1 ac_R0_1 bc_R0_1 ac_R1_1 bc_R1_1 ac_R2_1 bc_R2_1 ac_R3_1 bc_R3_1 af_R0_1 bf_R0_1 af_R1_1 bf_R1_1 af_R2_1 bf_R2_1 af_R3_1 bf_R3_1 hx1
  by_cases hx0 : x = 0
  · subst hx0
    go_wp2_with fail
    (with_reducible refine (S_num _ r _ [3, -1, 0, 1, 2] (N + 1) (rdr_b (R_2.out) (below_alloc _ _)) (by omega) (rdb_lit _ #[.int .i64 3, .int .i64 (-1), .int .i64 0, .int .i64 1, .int .i64 2] [3, -1, 0, 1, 2] rfl (r + 1) (w2.heap.size) 5 (by first | rfl | simp) rfl (by first | omega | (simp; omega))) (by decide) (by decide)).mono ?_)
    rintro e w3 ⟨y, rfl, hy, hr1, hg⟩
    have c_R0_3 := cell_gs (cell_b (c_R0_2) (below_alloc _ _)) hg (by show w.heap.size + 1 ≠ r; omega)
    have c_R1_3 := cell_gs (cell_b (c_R1_2) (below_alloc _ _)) hg (by show w.heap.size + 1 ≠ r; omega)
    have c_R2_3 := cell_gs (cell_b (c_R2_2) (below_alloc _ _)) hg (by show w.heap.size + 1 ≠ r; omega)
    have c_R3_3 := cell_gs (cell_b (c_R3_2) (below_alloc _ _)) hg (by show w.heap.size + 1 ≠ r; omega)
    have c_O0_3 := cell_gs (cell_b (c_O0_2) (below_alloc _ _)) hg (by show w1.heap.size ≠ r; omega)
    have c_O1_3 := cell_gs (cell_b (c_O1_2) (below_alloc _ _)) hg (by show w1.heap.size ≠ r; omega)
    have c_O2_3 := cell_gs (cell_b (c_O2_2) (below_alloc _ _)) hg (by show w1.heap.size ≠ r; omega)
    have c_O3_3 := cell_gs (cell_b (c_O3_2) (below_alloc _ _)) hg (by show w1.heap.size ≠ r; omega)
    have f_R0_3 := frz_gs (p := ⟨w.heap.size + 1, 0, none⟩) (cell_lt (cell_b (c_R0_2) (below_alloc _ _))) (frz_b (cell_lt (c_R0_2)) (f_R0_2) (below_alloc _ _)) hg (by show w.heap.size + 1 ≠ r; omega)
    have f_R1_3 := frz_gs (p := ⟨w.heap.size + 1, 1, none⟩) (cell_lt (cell_b (c_R1_2) (below_alloc _ _))) (frz_b (cell_lt (c_R1_2)) (f_R1_2) (below_alloc _ _)) hg (by show w.heap.size + 1 ≠ r; omega)
    have f_R2_3 := frz_gs (p := ⟨w.heap.size + 1, 2, none⟩) (cell_lt (cell_b (c_R2_2) (below_alloc _ _))) (frz_b (cell_lt (c_R2_2)) (f_R2_2) (below_alloc _ _)) hg (by show w.heap.size + 1 ≠ r; omega)
    have f_R3_3 := frz_gs (p := ⟨w.heap.size + 1, 3, none⟩) (cell_lt (cell_b (c_R3_2) (below_alloc _ _))) (frz_b (cell_lt (c_R3_2)) (f_R3_2) (below_alloc _ _)) hg (by show w.heap.size + 1 ≠ r; omega)
    have f_O0_3 := frz_gs (p := ⟨w1.heap.size, 0, none⟩) (cell_lt (cell_b (c_O0_2) (below_alloc _ _))) (frz_b (cell_lt (c_O0_2)) (f_O0_2) (below_alloc _ _)) hg (by show w1.heap.size ≠ r; omega)
    have f_O1_3 := frz_gs (p := ⟨w1.heap.size, 1, none⟩) (cell_lt (cell_b (c_O1_2) (below_alloc _ _))) (frz_b (cell_lt (c_O1_2)) (f_O1_2) (below_alloc _ _)) hg (by show w1.heap.size ≠ r; omega)
    have f_O2_3 := frz_gs (p := ⟨w1.heap.size, 2, none⟩) (cell_lt (cell_b (c_O2_2) (below_alloc _ _))) (frz_b (cell_lt (c_O2_2)) (f_O2_2) (below_alloc _ _)) hg (by show w1.heap.size ≠ r; omega)
    have f_O3_3 := frz_gs (p := ⟨w1.heap.size, 3, none⟩) (cell_lt (cell_b (c_O3_2) (below_alloc _ _))) (frz_b (cell_lt (c_O3_2)) (f_O3_2) (below_alloc _ _)) hg (by show w1.heap.size ≠ r; omega)
    have o_e_3 := Lib.hid (own_gr (own_below (o_e_2.out) (below_alloc _ _)) hg (fun g g' h h' => by injection h with h; have h3 := lo_e.out g' h'; omega))
    have R_3 := Lib.hid hr1
    have T_3 := Lib.hid (gs_trans (gs_trans (T_2.out) (gs_b (below_alloc _ _))) hg)
    have z_3 : w2.heap.size + 1 ≤ w3.heap.size := (by have := hg.size; (try simp at this); omega)
    have ac_R0_3 := fun o => cell_b (c_R0_3) (below_alloc _ o)
    have bc_R0_3 := fun o o1 => cell_b (ac_R0_3 o) (below_alloc _ o1)
    have ac_R1_3 := fun o => cell_b (c_R1_3) (below_alloc _ o)
    have bc_R1_3 := fun o o1 => cell_b (ac_R1_3 o) (below_alloc _ o1)
    have ac_R2_3 := fun o => cell_b (c_R2_3) (below_alloc _ o)
    have bc_R2_3 := fun o o1 => cell_b (ac_R2_3 o) (below_alloc _ o1)
    have ac_R3_3 := fun o => cell_b (c_R3_3) (below_alloc _ o)
    have bc_R3_3 := fun o o1 => cell_b (ac_R3_3 o) (below_alloc _ o1)
    have ac_O0_3 := fun o => cell_b (c_O0_3) (below_alloc _ o)
    have bc_O0_3 := fun o o1 => cell_b (ac_O0_3 o) (below_alloc _ o1)
    have ac_O1_3 := fun o => cell_b (c_O1_3) (below_alloc _ o)
    have bc_O1_3 := fun o o1 => cell_b (ac_O1_3 o) (below_alloc _ o1)
    have ac_O2_3 := fun o => cell_b (c_O2_3) (below_alloc _ o)
    have bc_O2_3 := fun o o1 => cell_b (ac_O2_3 o) (below_alloc _ o1)
    have ac_O3_3 := fun o => cell_b (c_O3_3) (below_alloc _ o)
    have bc_O3_3 := fun o o1 => cell_b (ac_O3_3 o) (below_alloc _ o1)
    have af_R0_3 := fun o => frz_b (cell_lt (c_R0_3)) (f_R0_3) (below_alloc _ o)
    have bf_R0_3 := fun o o1 => frz_b (cell_lt (ac_R0_3 o)) (af_R0_3 o) (below_alloc _ o1)
    have af_R1_3 := fun o => frz_b (cell_lt (c_R1_3)) (f_R1_3) (below_alloc _ o)
    have bf_R1_3 := fun o o1 => frz_b (cell_lt (ac_R1_3 o)) (af_R1_3 o) (below_alloc _ o1)
    have af_R2_3 := fun o => frz_b (cell_lt (c_R2_3)) (f_R2_3) (below_alloc _ o)
    have bf_R2_3 := fun o o1 => frz_b (cell_lt (ac_R2_3 o)) (af_R2_3 o) (below_alloc _ o1)
    have af_R3_3 := fun o => frz_b (cell_lt (c_R3_3)) (f_R3_3) (below_alloc _ o)
    have bf_R3_3 := fun o o1 => frz_b (cell_lt (ac_R3_3 o)) (af_R3_3 o) (below_alloc _ o1)
    have af_O0_3 := fun o => frz_b (cell_lt (c_O0_3)) (f_O0_3) (below_alloc _ o)
    have bf_O0_3 := fun o o1 => frz_b (cell_lt (ac_O0_3 o)) (af_O0_3 o) (below_alloc _ o1)
    have af_O1_3 := fun o => frz_b (cell_lt (c_O1_3)) (f_O1_3) (below_alloc _ o)
    have bf_O1_3 := fun o o1 => frz_b (cell_lt (ac_O1_3 o)) (af_O1_3 o) (below_alloc _ o1)
    have af_O2_3 := fun o => frz_b (cell_lt (c_O2_3)) (f_O2_3) (below_alloc _ o)
    have bf_O2_3 := fun o o1 => frz_b (cell_lt (ac_O2_3 o)) (af_O2_3 o) (below_alloc _ o1)
    have af_O3_3 := fun o => frz_b (cell_lt (c_O3_3)) (f_O3_3) (below_alloc _ o)
    have bf_O3_3 := fun o o1 => frz_b (cell_lt (ac_O3_3 o)) (af_O3_3 o) (below_alloc _ o1)
    clear hg c_R0_2 c_R1_2 c_R2_2 c_R3_2 c_O0_2 c_O1_2 c_O2_2 c_O3_2 f_R0_2 f_R1_2 f_R2_2 f_R3_2 f_O0_2 f_O1_2 f_O2_2 f_O3_2 o_e_2 hr1 R_2 T_2 ac_R0_2 bc_R0_2 ac_R1_2 bc_R1_2 ac_R2_2 bc_R2_2 ac_R3_2 bc_R3_2 ac_O0_2 bc_O0_2 ac_O1_2 bc_O1_2 ac_O2_2 bc_O2_2 ac_O3_2 bc_O3_2 af_R0_2 bf_R0_2 af_R1_2 bf_R1_2 af_R2_2 bf_R2_2 af_R3_2 bf_R3_2 af_O0_2 bf_O0_2 af_O1_2 bf_O1_2 af_O2_2 bf_O2_2 af_O3_2 bf_O3_2 hy
    go_wp2_with fail
    refine bodyPost_ret (v := .agg #[.int .i64 y, .int .i64 o, .int .i64 k, .slice a1 xs.length cap1]) (by simp [results, Try.results50, go_sem, c_R0_3, c_R1_3, c_R2_3, c_R3_3]) rfl ⟨y, o, k, xs, a1, cap1, rfl, by omega, rdb_mono (ow_rdb (own_set (p := ⟨w.heap.size + 1, 3, none⟩) (own_set (p := ⟨w.heap.size + 1, 2, none⟩) (own_set (p := ⟨w.heap.size + 1, 1, none⟩) (own_set (p := ⟨w.heap.size + 1, 0, none⟩) (own_set (p := ⟨w1.heap.size, 0, none⟩) (o_e_3.out) (fun g h => by have h1 := lo_e.out g h; have h2 := hi_e.out g h; show g ≠ w1.heap.size; omega) _) (fun g h => by have h1 := lo_e.out g h; have h2 := hi_e.out g h; show g ≠ w.heap.size + 1; omega) _) (fun g h => by have h1 := lo_e.out g h; have h2 := hi_e.out g h; show g ≠ w.heap.size + 1; omega) _) (fun g h => by have h1 := lo_e.out g h; have h2 := hi_e.out g h; show g ≠ w.heap.size + 1; omega) _) (fun g h => by have h1 := lo_e.out g h; have h2 := hi_e.out g h; show g ≠ w.heap.size + 1; omega) _)) (by omega), rdr_mono (rdr_set (p := ⟨w.heap.size + 1, 3, none⟩) (rdr_set (p := ⟨w.heap.size + 1, 2, none⟩) (rdr_set (p := ⟨w.heap.size + 1, 1, none⟩) (rdr_set (p := ⟨w.heap.size + 1, 0, none⟩) (rdr_set (p := ⟨w1.heap.size, 0, none⟩) (R_3.out) (by show r < w1.heap.size; omega) _) (by show r < w.heap.size + 1; omega) _) (by show r < w.heap.size + 1; omega) _) (by show r < w.heap.size + 1; omega) _) (by show r < w.heap.size + 1; omega) _) (by omega), (gs_set (p := ⟨w.heap.size + 1, 3, none⟩) (gs_set (p := ⟨w.heap.size + 1, 2, none⟩) (gs_set (p := ⟨w.heap.size + 1, 1, none⟩) (gs_set (p := ⟨w.heap.size + 1, 0, none⟩) (gs_set (p := ⟨w1.heap.size, 0, none⟩) (T_3.out) (.inr (by show w.heap.size ≤ w1.heap.size; omega)) _) (.inr (by show w.heap.size ≤ w.heap.size + 1; omega)) _) (.inr (by show w.heap.size ≤ w.heap.size + 1; omega)) _) (.inr (by show w.heap.size ≤ w.heap.size + 1; omega)) _) (.inr (by show w.heap.size ≤ w.heap.size + 1; omega)) _)⟩
  by_cases hx1 : x = 1
  · subst hx1
    go_wp2_with fail
    (with_reducible refine (S_num _ r _ [6, -1, 1] (N + 1) (rdr_b (R_2.out) (below_alloc _ _)) (by omega) (rdb_lit _ #[.int .i64 6, .int .i64 (-1), .int .i64 1] [6, -1, 1] rfl (r + 1) (w2.heap.size) 3 (by first | rfl | simp) rfl (by first | omega | (simp; omega))) (by decide) (by decide)).mono ?_)
    rintro e w3 ⟨y, rfl, hy, hr1, hg⟩
    have c_R0_3 := cell_gs (cell_b (c_R0_2) (below_alloc _ _)) hg (by show w.heap.size + 1 ≠ r; omega)
    have c_R1_3 := cell_gs (cell_b (c_R1_2) (below_alloc _ _)) hg (by show w.heap.size + 1 ≠ r; omega)
    have c_R2_3 := cell_gs (cell_b (c_R2_2) (below_alloc _ _)) hg (by show w.heap.size + 1 ≠ r; omega)
    have c_R3_3 := cell_gs (cell_b (c_R3_2) (below_alloc _ _)) hg (by show w.heap.size + 1 ≠ r; omega)
    have c_O0_3 := cell_gs (cell_b (c_O0_2) (below_alloc _ _)) hg (by show w1.heap.size ≠ r; omega)
    have c_O1_3 := cell_gs (cell_b (c_O1_2) (below_alloc _ _)) hg (by show w1.heap.size ≠ r; omega)
    have c_O2_3 := cell_gs (cell_b (c_O2_2) (below_alloc _ _)) hg (by show w1.heap.size ≠ r; omega)
    have c_O3_3 := cell_gs (cell_b (c_O3_2) (below_alloc _ _)) hg (by show w1.heap.size ≠ r; omega)
    have f_R0_3 := frz_gs (p := ⟨w.heap.size + 1, 0, none⟩) (cell_lt (cell_b (c_R0_2) (below_alloc _ _))) (frz_b (cell_lt (c_R0_2)) (f_R0_2) (below_alloc _ _)) hg (by show w.heap.size + 1 ≠ r; omega)
    have f_R1_3 := frz_gs (p := ⟨w.heap.size + 1, 1, none⟩) (cell_lt (cell_b (c_R1_2) (below_alloc _ _))) (frz_b (cell_lt (c_R1_2)) (f_R1_2) (below_alloc _ _)) hg (by show w.heap.size + 1 ≠ r; omega)
    have f_R2_3 := frz_gs (p := ⟨w.heap.size + 1, 2, none⟩) (cell_lt (cell_b (c_R2_2) (below_alloc _ _))) (frz_b (cell_lt (c_R2_2)) (f_R2_2) (below_alloc _ _)) hg (by show w.heap.size + 1 ≠ r; omega)
    have f_R3_3 := frz_gs (p := ⟨w.heap.size + 1, 3, none⟩) (cell_lt (cell_b (c_R3_2) (below_alloc _ _))) (frz_b (cell_lt (c_R3_2)) (f_R3_2) (below_alloc _ _)) hg (by show w.heap.size + 1 ≠ r; omega)
    have f_O0_3 := frz_gs (p := ⟨w1.heap.size, 0, none⟩) (cell_lt (cell_b (c_O0_2) (below_alloc _ _))) (frz_b (cell_lt (c_O0_2)) (f_O0_2) (below_alloc _ _)) hg (by show w1.heap.size ≠ r; omega)
    have f_O1_3 := frz_gs (p := ⟨w1.heap.size, 1, none⟩) (cell_lt (cell_b (c_O1_2) (below_alloc _ _))) (frz_b (cell_lt (c_O1_2)) (f_O1_2) (below_alloc _ _)) hg (by show w1.heap.size ≠ r; omega)
    have f_O2_3 := frz_gs (p := ⟨w1.heap.size, 2, none⟩) (cell_lt (cell_b (c_O2_2) (below_alloc _ _))) (frz_b (cell_lt (c_O2_2)) (f_O2_2) (below_alloc _ _)) hg (by show w1.heap.size ≠ r; omega)
    have f_O3_3 := frz_gs (p := ⟨w1.heap.size, 3, none⟩) (cell_lt (cell_b (c_O3_2) (below_alloc _ _))) (frz_b (cell_lt (c_O3_2)) (f_O3_2) (below_alloc _ _)) hg (by show w1.heap.size ≠ r; omega)
    have o_e_3 := Lib.hid (own_gr (own_below (o_e_2.out) (below_alloc _ _)) hg (fun g g' h h' => by injection h with h; have h3 := lo_e.out g' h'; omega))
    have R_3 := Lib.hid hr1
    have T_3 := Lib.hid (gs_trans (gs_trans (T_2.out) (gs_b (below_alloc _ _))) hg)
    have z_3 : w2.heap.size + 1 ≤ w3.heap.size := (by have := hg.size; (try simp at this); omega)
    have ac_R0_3 := fun o => cell_b (c_R0_3) (below_alloc _ o)
    have bc_R0_3 := fun o o1 => cell_b (ac_R0_3 o) (below_alloc _ o1)
    have ac_R1_3 := fun o => cell_b (c_R1_3) (below_alloc _ o)
    have bc_R1_3 := fun o o1 => cell_b (ac_R1_3 o) (below_alloc _ o1)
    have ac_R2_3 := fun o => cell_b (c_R2_3) (below_alloc _ o)
    have bc_R2_3 := fun o o1 => cell_b (ac_R2_3 o) (below_alloc _ o1)
    have ac_R3_3 := fun o => cell_b (c_R3_3) (below_alloc _ o)
    have bc_R3_3 := fun o o1 => cell_b (ac_R3_3 o) (below_alloc _ o1)
    have ac_O0_3 := fun o => cell_b (c_O0_3) (below_alloc _ o)
    have bc_O0_3 := fun o o1 => cell_b (ac_O0_3 o) (below_alloc _ o1)
    have ac_O1_3 := fun o => cell_b (c_O1_3) (below_alloc _ o)
    have bc_O1_3 := fun o o1 => cell_b (ac_O1_3 o) (below_alloc _ o1)
    have ac_O2_3 := fun o => cell_b (c_O2_3) (below_alloc _ o)
    have bc_O2_3 := fun o o1 => cell_b (ac_O2_3 o) (below_alloc _ o1)
    have ac_O3_3 := fun o => cell_b (c_O3_3) (below_alloc _ o)
    have bc_O3_3 := fun o o1 => cell_b (ac_O3_3 o) (below_alloc _ o1)
    have af_R0_3 := fun o => frz_b (cell_lt (c_R0_3)) (f_R0_3) (below_alloc _ o)
    have bf_R0_3 := fun o o1 => frz_b (cell_lt (ac_R0_3 o)) (af_R0_3 o) (below_alloc _ o1)
    have af_R1_3 := fun o => frz_b (cell_lt (c_R1_3)) (f_R1_3) (below_alloc _ o)
    have bf_R1_3 := fun o o1 => frz_b (cell_lt (ac_R1_3 o)) (af_R1_3 o) (below_alloc _ o1)
    have af_R2_3 := fun o => frz_b (cell_lt (c_R2_3)) (f_R2_3) (below_alloc _ o)
    have bf_R2_3 := fun o o1 => frz_b (cell_lt (ac_R2_3 o)) (af_R2_3 o) (below_alloc _ o1)
    have af_R3_3 := fun o => frz_b (cell_lt (c_R3_3)) (f_R3_3) (below_alloc _ o)
    have bf_R3_3 := fun o o1 => frz_b (cell_lt (ac_R3_3 o)) (af_R3_3 o) (below_alloc _ o1)
    have af_O0_3 := fun o => frz_b (cell_lt (c_O0_3)) (f_O0_3) (below_alloc _ o)
    have bf_O0_3 := fun o o1 => frz_b (cell_lt (ac_O0_3 o)) (af_O0_3 o) (below_alloc _ o1)
    have af_O1_3 := fun o => frz_b (cell_lt (c_O1_3)) (f_O1_3) (below_alloc _ o)
    have bf_O1_3 := fun o o1 => frz_b (cell_lt (ac_O1_3 o)) (af_O1_3 o) (below_alloc _ o1)
    have af_O2_3 := fun o => frz_b (cell_lt (c_O2_3)) (f_O2_3) (below_alloc _ o)
    have bf_O2_3 := fun o o1 => frz_b (cell_lt (ac_O2_3 o)) (af_O2_3 o) (below_alloc _ o1)
    have af_O3_3 := fun o => frz_b (cell_lt (c_O3_3)) (f_O3_3) (below_alloc _ o)
    have bf_O3_3 := fun o o1 => frz_b (cell_lt (ac_O3_3 o)) (af_O3_3 o) (below_alloc _ o1)
    clear hg c_R0_2 c_R1_2 c_R2_2 c_R3_2 c_O0_2 c_O1_2 c_O2_2 c_O3_2 f_R0_2 f_R1_2 f_R2_2 f_R3_2 f_O0_2 f_O1_2 f_O2_2 f_O3_2 o_e_2 hr1 R_2 T_2 ac_R0_2 bc_R0_2 ac_R1_2 bc_R1_2 ac_R2_2 bc_R2_2 ac_R3_2 bc_R3_2 ac_O0_2 bc_O0_2 ac_O1_2 bc_O1_2 ac_O2_2 bc_O2_2 ac_O3_2 bc_O3_2 af_R0_2 bf_R0_2 af_R1_2 bf_R1_2 af_R2_2 bf_R2_2 af_R3_2 bf_R3_2 af_O0_2 bf_O0_2 af_O1_2 bf_O1_2 af_O2_2 bf_O2_2 af_O3_2 bf_O3_2 hy
    go_wp2_with fail
    refine bodyPost_ret (v := .agg #[.int .i64 s, .int .i64 y, .int .i64 k, .slice a1 xs.length cap1]) (by simp [results, Try.results50, go_sem, c_R0_3, c_R1_3, c_R2_3, c_R3_3]) rfl ⟨s, y, k, xs, a1, cap1, rfl, by omega, rdb_mono (ow_rdb (own_set (p := ⟨w.heap.size + 1, 3, none⟩) (own_set (p := ⟨w.heap.size + 1, 2, none⟩) (own_set (p := ⟨w.heap.size + 1, 1, none⟩) (own_set (p := ⟨w.heap.size + 1, 0, none⟩) (own_set (p := ⟨w1.heap.size, 1, none⟩) (o_e_3.out) (fun g h => by have h1 := lo_e.out g h; have h2 := hi_e.out g h; show g ≠ w1.heap.size; omega) _) (fun g h => by have h1 := lo_e.out g h; have h2 := hi_e.out g h; show g ≠ w.heap.size + 1; omega) _) (fun g h => by have h1 := lo_e.out g h; have h2 := hi_e.out g h; show g ≠ w.heap.size + 1; omega) _) (fun g h => by have h1 := lo_e.out g h; have h2 := hi_e.out g h; show g ≠ w.heap.size + 1; omega) _) (fun g h => by have h1 := lo_e.out g h; have h2 := hi_e.out g h; show g ≠ w.heap.size + 1; omega) _)) (by omega), rdr_mono (rdr_set (p := ⟨w.heap.size + 1, 3, none⟩) (rdr_set (p := ⟨w.heap.size + 1, 2, none⟩) (rdr_set (p := ⟨w.heap.size + 1, 1, none⟩) (rdr_set (p := ⟨w.heap.size + 1, 0, none⟩) (rdr_set (p := ⟨w1.heap.size, 1, none⟩) (R_3.out) (by show r < w1.heap.size; omega) _) (by show r < w.heap.size + 1; omega) _) (by show r < w.heap.size + 1; omega) _) (by show r < w.heap.size + 1; omega) _) (by show r < w.heap.size + 1; omega) _) (by omega), (gs_set (p := ⟨w.heap.size + 1, 3, none⟩) (gs_set (p := ⟨w.heap.size + 1, 2, none⟩) (gs_set (p := ⟨w.heap.size + 1, 1, none⟩) (gs_set (p := ⟨w.heap.size + 1, 0, none⟩) (gs_set (p := ⟨w1.heap.size, 1, none⟩) (T_3.out) (.inr (by show w.heap.size ≤ w1.heap.size; omega)) _) (.inr (by show w.heap.size ≤ w.heap.size + 1; omega)) _) (.inr (by show w.heap.size ≤ w.heap.size + 1; omega)) _) (.inr (by show w.heap.size ≤ w.heap.size + 1; omega)) _) (.inr (by show w.heap.size ≤ w.heap.size + 1; omega)) _)⟩
  by_cases hx2 : x = 2
  · subst hx2
    go_wp2_with fail
    go_region_law (first | refine step_append_rd rfl _ _ 23 rfl (w.heap.size + 2) i0 Try.underlying23 hi hz0 hz1 hz2 (.slice a1 xs.length cap1) (xs.length) (xs) rfl (own_below (o_e_3.out) (below_alloc _ _)) _ _ _ [y] rfl (rdb_rd (rdb_lit _ #[.int .i64 y] [y] rfl 0 (w3.heap.size) 1 (by simp) rfl (by omega))) rfl (by unfold maxLen; simp; omega) (by simp; omega) (by first | omega | (simp; done) | (simp; omega)) ?_; intro v4 w4 hown hgr hloc; have ho : w4.ownsRow (w.heap.size + 2) 3 1 v4 (xs.length + 1) (ints (xs ++ [y])) := (by exact hown); obtain ⟨a2, cap2, hv⟩ := own_shape ho; subst hv; have iv_f : Hid (∀ g, (Value.slice a2 (xs.length + 1) cap2).ownBlock = some g → (w.heap.size + 2 ≤ g ∧ g < w1.heap.size) ∨ (w3.heap.size + 1 ≤ g ∧ g < w4.heap.size)) := Lib.hid (fun g h => by have h9 := hgr.size; have h7 := own_hi ho g h; rcases hloc with h8 | h8 <;> rw [h8] at h <;> first | (have h1 := lo_e.out g h; have h2 := hi_e.out g h; (try simp at h9); omega) | (injection h with h; (try simp at h9); (try simp at h); omega)); have c_R0_4 := cell_gr (cell_b (c_R0_3) (below_alloc _ _)) hgr (fun g h => by have h1 := lo_e.out g h; have h2 := hi_e.out g h; show w.heap.size + 1 ≠ g; omega); have c_R1_4 := cell_gr (cell_b (c_R1_3) (below_alloc _ _)) hgr (fun g h => by have h1 := lo_e.out g h; have h2 := hi_e.out g h; show w.heap.size + 1 ≠ g; omega); have c_R2_4 := cell_gr (cell_b (c_R2_3) (below_alloc _ _)) hgr (fun g h => by have h1 := lo_e.out g h; have h2 := hi_e.out g h; show w.heap.size + 1 ≠ g; omega); have c_R3_4 := cell_gr (cell_b (c_R3_3) (below_alloc _ _)) hgr (fun g h => by have h1 := lo_e.out g h; have h2 := hi_e.out g h; show w.heap.size + 1 ≠ g; omega); have c_O0_4 := cell_gr (cell_b (c_O0_3) (below_alloc _ _)) hgr (fun g h => by have h1 := lo_e.out g h; have h2 := hi_e.out g h; show w1.heap.size ≠ g; omega); have c_O1_4 := cell_gr (cell_b (c_O1_3) (below_alloc _ _)) hgr (fun g h => by have h1 := lo_e.out g h; have h2 := hi_e.out g h; show w1.heap.size ≠ g; omega); have c_O2_4 := cell_gr (cell_b (c_O2_3) (below_alloc _ _)) hgr (fun g h => by have h1 := lo_e.out g h; have h2 := hi_e.out g h; show w1.heap.size ≠ g; omega); have c_O3_4 := cell_gr (cell_b (c_O3_3) (below_alloc _ _)) hgr (fun g h => by have h1 := lo_e.out g h; have h2 := hi_e.out g h; show w1.heap.size ≠ g; omega); have f_R0_4 := (frz_gr (p := ⟨w.heap.size + 1, 0, none⟩) (cell_lt (cell_b (c_R0_3) (below_alloc _ _))) hgr (fun g h => by have h1 := lo_e.out g h; have h2 := hi_e.out g h; show w.heap.size + 1 ≠ g; omega)).trans (frz_b (cell_lt (c_R0_3)) (f_R0_3) (below_alloc _ _)); have f_R1_4 := (frz_gr (p := ⟨w.heap.size + 1, 1, none⟩) (cell_lt (cell_b (c_R1_3) (below_alloc _ _))) hgr (fun g h => by have h1 := lo_e.out g h; have h2 := hi_e.out g h; show w.heap.size + 1 ≠ g; omega)).trans (frz_b (cell_lt (c_R1_3)) (f_R1_3) (below_alloc _ _)); have f_R2_4 := (frz_gr (p := ⟨w.heap.size + 1, 2, none⟩) (cell_lt (cell_b (c_R2_3) (below_alloc _ _))) hgr (fun g h => by have h1 := lo_e.out g h; have h2 := hi_e.out g h; show w.heap.size + 1 ≠ g; omega)).trans (frz_b (cell_lt (c_R2_3)) (f_R2_3) (below_alloc _ _)); have f_R3_4 := (frz_gr (p := ⟨w.heap.size + 1, 3, none⟩) (cell_lt (cell_b (c_R3_3) (below_alloc _ _))) hgr (fun g h => by have h1 := lo_e.out g h; have h2 := hi_e.out g h; show w.heap.size + 1 ≠ g; omega)).trans (frz_b (cell_lt (c_R3_3)) (f_R3_3) (below_alloc _ _)); have f_O0_4 := (frz_gr (p := ⟨w1.heap.size, 0, none⟩) (cell_lt (cell_b (c_O0_3) (below_alloc _ _))) hgr (fun g h => by have h1 := lo_e.out g h; have h2 := hi_e.out g h; show w1.heap.size ≠ g; omega)).trans (frz_b (cell_lt (c_O0_3)) (f_O0_3) (below_alloc _ _)); have f_O1_4 := (frz_gr (p := ⟨w1.heap.size, 1, none⟩) (cell_lt (cell_b (c_O1_3) (below_alloc _ _))) hgr (fun g h => by have h1 := lo_e.out g h; have h2 := hi_e.out g h; show w1.heap.size ≠ g; omega)).trans (frz_b (cell_lt (c_O1_3)) (f_O1_3) (below_alloc _ _)); have f_O2_4 := (frz_gr (p := ⟨w1.heap.size, 2, none⟩) (cell_lt (cell_b (c_O2_3) (below_alloc _ _))) hgr (fun g h => by have h1 := lo_e.out g h; have h2 := hi_e.out g h; show w1.heap.size ≠ g; omega)).trans (frz_b (cell_lt (c_O2_3)) (f_O2_3) (below_alloc _ _)); have f_O3_4 := (frz_gr (p := ⟨w1.heap.size, 3, none⟩) (cell_lt (cell_b (c_O3_3) (below_alloc _ _))) hgr (fun g h => by have h1 := lo_e.out g h; have h2 := hi_e.out g h; show w1.heap.size ≠ g; omega)).trans (frz_b (cell_lt (c_O3_3)) (f_O3_3) (below_alloc _ _)); have R_4 := Lib.hid (rdr_gr (rdr_b (R_3.out) (below_alloc _ _)) hgr (fun g h => by have h1 := lo_e.out g h; have h2 := hi_e.out g h; omega)); have T_4 := Lib.hid (gs_row (gs_trans (T_3.out) (gs_b (below_alloc _ _))) hgr (fun g h => by have h1 := lo_e.out g h; have h2 := hi_e.out g h; omega)); have z_4 : w3.heap.size + 1 ≤ w4.heap.size := (by have := hgr.size; (try simp at this); omega); have o_f_4 := Lib.hid ho; have lo_f := Lib.hid (own_lo o_f_4.out); have hi_f := Lib.hid (own_hi o_f_4.out); have ac_R0_4 := fun o => cell_b (c_R0_4) (below_alloc _ o); have bc_R0_4 := fun o o1 => cell_b (ac_R0_4 o) (below_alloc _ o1); have ac_R1_4 := fun o => cell_b (c_R1_4) (below_alloc _ o); have bc_R1_4 := fun o o1 => cell_b (ac_R1_4 o) (below_alloc _ o1); have ac_R2_4 := fun o => cell_b (c_R2_4) (below_alloc _ o); have bc_R2_4 := fun o o1 => cell_b (ac_R2_4 o) (below_alloc _ o1); have ac_R3_4 := fun o => cell_b (c_R3_4) (below_alloc _ o); have bc_R3_4 := fun o o1 => cell_b (ac_R3_4 o) (below_alloc _ o1); have ac_O0_4 := fun o => cell_b (c_O0_4) (below_alloc _ o); have bc_O0_4 := fun o o1 => cell_b (ac_O0_4 o) (below_alloc _ o1); have ac_O1_4 := fun o => cell_b (c_O1_4) (below_alloc _ o); have bc_O1_4 := fun o o1 => cell_b (ac_O1_4 o) (below_alloc _ o1); have ac_O2_4 := fun o => cell_b (c_O2_4) (below_alloc _ o); have bc_O2_4 := fun o o1 => cell_b (ac_O2_4 o) (below_alloc _ o1); have ac_O3_4 := fun o => cell_b (c_O3_4) (below_alloc _ o); have bc_O3_4 := fun o o1 => cell_b (ac_O3_4 o) (below_alloc _ o1); have af_R0_4 := fun o => frz_b (cell_lt (c_R0_4)) (f_R0_4) (below_alloc _ o); have bf_R0_4 := fun o o1 => frz_b (cell_lt (ac_R0_4 o)) (af_R0_4 o) (below_alloc _ o1); have af_R1_4 := fun o => frz_b (cell_lt (c_R1_4)) (f_R1_4) (below_alloc _ o); have bf_R1_4 := fun o o1 => frz_b (cell_lt (ac_R1_4 o)) (af_R1_4 o) (below_alloc _ o1); have af_R2_4 := fun o => frz_b (cell_lt (c_R2_4)) (f_R2_4) (below_alloc _ o); have bf_R2_4 := fun o o1 => frz_b (cell_lt (ac_R2_4 o)) (af_R2_4 o) (below_alloc _ o1); have af_R3_4 := fun o => frz_b (cell_lt (c_R3_4)) (f_R3_4) (below_alloc _ o); have bf_R3_4 := fun o o1 => frz_b (cell_lt (ac_R3_4 o)) (af_R3_4 o) (below_alloc _ o1); have af_O0_4 := fun o => frz_b (cell_lt (c_O0_4)) (f_O0_4) (below_alloc _ o); have bf_O0_4 := fun o o1 => frz_b (cell_lt (ac_O0_4 o)) (af_O0_4 o) (below_alloc _ o1); have af_O1_4 := fun o => frz_b (cell_lt (c_O1_4)) (f_O1_4) (below_alloc _ o); have bf_O1_4 := fun o o1 => frz_b (cell_lt (ac_O1_4 o)) (af_O1_4 o) (below_alloc _ o1); have af_O2_4 := fun o => frz_b (cell_lt (c_O2_4)) (f_O2_4) (below_alloc _ o); have bf_O2_4 := fun o o1 => frz_b (cell_lt (ac_O2_4 o)) (af_O2_4 o) (below_alloc _ o1); have af_O3_4 := fun o => frz_b (cell_lt (c_O3_4)) (f_O3_4) (below_alloc _ o); have bf_O3_4 := fun o o1 => frz_b (cell_lt (ac_O3_4 o)) (af_O3_4 o) (below_alloc _ o1); clear hgr c_R0_3 c_R1_3 c_R2_3 c_R3_3 c_O0_3 c_O1_3 c_O2_3 c_O3_3 f_R0_3 f_R1_3 f_R2_3 f_R3_3 f_O0_3 f_O1_3 f_O2_3 f_O3_3 R_3 T_3 ac_R0_3 bc_R0_3 ac_R1_3 bc_R1_3 ac_R2_3 bc_R2_3 ac_R3_3 bc_R3_3 ac_O0_3 bc_O0_3 ac_O1_3 bc_O1_3 ac_O2_3 bc_O2_3 ac_O3_3 bc_O3_3 af_R0_3 bf_R0_3 af_R1_3 bf_R1_3 af_R2_3 bf_R2_3 af_R3_3 bf_R3_3 af_O0_3 bf_O0_3 af_O1_3 bf_O1_3 af_O2_3 bf_O2_3 af_O3_3 bf_O3_3 hown ho hloc o_e_3 lo_e hi_e | ((go_simp; go_at_call 35; (with_reducible refine (S_pick _ r _ _ (rdr_b (R_2.out) (drew_below _)) (by omega) (by omega)).mono ?_); rintro e w3 ⟨y, rfl, hy0, hy1, hr1, hg⟩; have c_R0_3 := cell_gs (cell_b (c_R0_2) (drew_below _)) hg (by show w.heap.size + 1 ≠ r; omega); have c_R1_3 := cell_gs (cell_b (c_R1_2) (drew_below _)) hg (by show w.heap.size + 1 ≠ r; omega); have c_R2_3 := cell_gs (cell_b (c_R2_2) (drew_below _)) hg (by show w.heap.size + 1 ≠ r; omega); have c_R3_3 := cell_gs (cell_b (c_R3_2) (drew_below _)) hg (by show w.heap.size + 1 ≠ r; omega); have c_O0_3 := cell_gs (cell_b (c_O0_2) (drew_below _)) hg (by show w1.heap.size ≠ r; omega); have c_O1_3 := cell_gs (cell_b (c_O1_2) (drew_below _)) hg (by show w1.heap.size ≠ r; omega); have c_O2_3 := cell_gs (cell_b (c_O2_2) (drew_below _)) hg (by show w1.heap.size ≠ r; omega); have c_O3_3 := cell_gs (cell_b (c_O3_2) (drew_below _)) hg (by show w1.heap.size ≠ r; omega); have f_R0_3 := frz_gs (p := ⟨w.heap.size + 1, 0, none⟩) (cell_lt (cell_b (c_R0_2) (drew_below _))) (frz_b (cell_lt (c_R0_2)) (f_R0_2) (drew_below _)) hg (by show w.heap.size + 1 ≠ r; omega); have f_R1_3 := frz_gs (p := ⟨w.heap.size + 1, 1, none⟩) (cell_lt (cell_b (c_R1_2) (drew_below _))) (frz_b (cell_lt (c_R1_2)) (f_R1_2) (drew_below _)) hg (by show w.heap.size + 1 ≠ r; omega); have f_R2_3 := frz_gs (p := ⟨w.heap.size + 1, 2, none⟩) (cell_lt (cell_b (c_R2_2) (drew_below _))) (frz_b (cell_lt (c_R2_2)) (f_R2_2) (drew_below _)) hg (by show w.heap.size + 1 ≠ r; omega); have f_R3_3 := frz_gs (p := ⟨w.heap.size + 1, 3, none⟩) (cell_lt (cell_b (c_R3_2) (drew_below _))) (frz_b (cell_lt (c_R3_2)) (f_R3_2) (drew_below _)) hg (by show w.heap.size + 1 ≠ r; omega); have f_O0_3 := frz_gs (p := ⟨w1.heap.size, 0, none⟩) (cell_lt (cell_b (c_O0_2) (drew_below _))) (frz_b (cell_lt (c_O0_2)) (f_O0_2) (drew_below _)) hg (by show w1.heap.size ≠ r; omega); have f_O1_3 := frz_gs (p := ⟨w1.heap.size, 1, none⟩) (cell_lt (cell_b (c_O1_2) (drew_below _))) (frz_b (cell_lt (c_O1_2)) (f_O1_2) (drew_below _)) hg (by show w1.heap.size ≠ r; omega); have f_O2_3 := frz_gs (p := ⟨w1.heap.size, 2, none⟩) (cell_lt (cell_b (c_O2_2) (drew_below _))) (frz_b (cell_lt (c_O2_2)) (f_O2_2) (drew_below _)) hg (by show w1.heap.size ≠ r; omega); have f_O3_3 := frz_gs (p := ⟨w1.heap.size, 3, none⟩) (cell_lt (cell_b (c_O3_2) (drew_below _))) (frz_b (cell_lt (c_O3_2)) (f_O3_2) (drew_below _)) hg (by show w1.heap.size ≠ r; omega); have o_e_3 := Lib.hid (own_gr (own_below (o_e_2.out) (drew_below _)) hg (fun g g' h h' => by injection h with h; have h3 := lo_e.out g' h'; omega)); have R_3 := Lib.hid hr1; have T_3 := Lib.hid (gs_trans (gs_trans (T_2.out) (gs_b (drew_below _))) hg); have z_3 : w2.heap.size ≤ w3.heap.size := (by have := hg.size; (try simp at this); omega); have ac_R0_3 := fun o => cell_b (c_R0_3) (below_alloc _ o); have bc_R0_3 := fun o o1 => cell_b (ac_R0_3 o) (below_alloc _ o1); have ac_R1_3 := fun o => cell_b (c_R1_3) (below_alloc _ o); have bc_R1_3 := fun o o1 => cell_b (ac_R1_3 o) (below_alloc _ o1); have ac_R2_3 := fun o => cell_b (c_R2_3) (below_alloc _ o); have bc_R2_3 := fun o o1 => cell_b (ac_R2_3 o) (below_alloc _ o1); have ac_R3_3 := fun o => cell_b (c_R3_3) (below_alloc _ o); have bc_R3_3 := fun o o1 => cell_b (ac_R3_3 o) (below_alloc _ o1); have ac_O0_3 := fun o => cell_b (c_O0_3) (below_alloc _ o); have bc_O0_3 := fun o o1 => cell_b (ac_O0_3 o) (below_alloc _ o1); have ac_O1_3 := fun o => cell_b (c_O1_3) (below_alloc _ o); have bc_O1_3 := fun o o1 => cell_b (ac_O1_3 o) (below_alloc _ o1); have ac_O2_3 := fun o => cell_b (c_O2_3) (below_alloc _ o); have bc_O2_3 := fun o o1 => cell_b (ac_O2_3 o) (below_alloc _ o1); have ac_O3_3 := fun o => cell_b (c_O3_3) (below_alloc _ o); have bc_O3_3 := fun o o1 => cell_b (ac_O3_3 o) (below_alloc _ o1); have af_R0_3 := fun o => frz_b (cell_lt (c_R0_3)) (f_R0_3) (below_alloc _ o); have bf_R0_3 := fun o o1 => frz_b (cell_lt (ac_R0_3 o)) (af_R0_3 o) (below_alloc _ o1); have af_R1_3 := fun o => frz_b (cell_lt (c_R1_3)) (f_R1_3) (below_alloc _ o); have bf_R1_3 := fun o o1 => frz_b (cell_lt (ac_R1_3 o)) (af_R1_3 o) (below_alloc _ o1); have af_R2_3 := fun o => frz_b (cell_lt (c_R2_3)) (f_R2_3) (below_alloc _ o); have bf_R2_3 := fun o o1 => frz_b (cell_lt (ac_R2_3 o)) (af_R2_3 o) (below_alloc _ o1); have af_R3_3 := fun o => frz_b (cell_lt (c_R3_3)) (f_R3_3) (below_alloc _ o); have bf_R3_3 := fun o o1 => frz_b (cell_lt (ac_R3_3 o)) (af_R3_3 o) (below_alloc _ o1); have af_O0_3 := fun o => frz_b (cell_lt (c_O0_3)) (f_O0_3) (below_alloc _ o); have bf_O0_3 := fun o o1 => frz_b (cell_lt (ac_O0_3 o)) (af_O0_3 o) (below_alloc _ o1); have af_O1_3 := fun o => frz_b (cell_lt (c_O1_3)) (f_O1_3) (below_alloc _ o); have bf_O1_3 := fun o o1 => frz_b (cell_lt (ac_O1_3 o)) (af_O1_3 o) (below_alloc _ o1); have af_O2_3 := fun o => frz_b (cell_lt (c_O2_3)) (f_O2_3) (below_alloc _ o); have bf_O2_3 := fun o o1 => frz_b (cell_lt (ac_O2_3 o)) (af_O2_3 o) (below_alloc _ o1); have af_O3_3 := fun o => frz_b (cell_lt (c_O3_3)) (f_O3_3) (below_alloc _ o); have bf_O3_3 := fun o o1 => frz_b (cell_lt (ac_O3_3 o)) (af_O3_3 o) (below_alloc _ o1); clear hg c_R0_2 c_R1_2 c_R2_2 c_R3_2 c_O0_2 c_O1_2 c_O2_2 c_O3_2 f_R0_2 f_R1_2 f_R2_2 f_R3_2 f_O0_2 f_O1_2 f_O2_2 f_O3_2 o_e_2 hr1 R_2 T_2 ac_R0_2 bc_R0_2 ac_R1_2 bc_R1_2 ac_R2_2 bc_R2_2 ac_R3_2 bc_R3_2 ac_O0_2 bc_O0_2 ac_O1_2 bc_O1_2 ac_O2_2 bc_O2_2 ac_O3_2 bc_O3_2 af_R0_2 bf_R0_2 af_R1_2 bf_R1_2 af_R2_2 bf_R2_2 af_R3_2 bf_R3_2 af_O0_2 bf_O0_2 af_O1_2 bf_O1_2 af_O2_2 bf_O2_2 af_O3_2 bf_O3_2 hy1)))
    all_goals go_wp2_with fail
    all_goals have e9 : (xs ++ [y]).length = xs.length + 1 := by simp
    all_goals refine bodyPost_ret (v := .agg #[.int .i64 s, .int .i64 o, .int .i64 k, .slice a2 (xs.length + 1) cap2]) (by simp [results, Try.results50, go_sem, c_R0_4, c_R1_4, c_R2_4, c_R3_4]) rfl ⟨s, o, k, xs ++ [y], a2, cap2, by rw [e9], by omega, ?_, rdr_mono (rdr_set (p := ⟨w.heap.size + 1, 3, none⟩) (rdr_set (p := ⟨w.heap.size + 1, 2, none⟩) (rdr_set (p := ⟨w.heap.size + 1, 1, none⟩) (rdr_set (p := ⟨w.heap.size + 1, 0, none⟩) (rdr_set (p := ⟨w1.heap.size, 3, none⟩) (R_4.out) (by show r < w1.heap.size; omega) _) (by show r < w.heap.size + 1; omega) _) (by show r < w.heap.size + 1; omega) _) (by show r < w.heap.size + 1; omega) _) (by show r < w.heap.size + 1; omega) _) (by omega), (gs_set (p := ⟨w.heap.size + 1, 3, none⟩) (gs_set (p := ⟨w.heap.size + 1, 2, none⟩) (gs_set (p := ⟨w.heap.size + 1, 1, none⟩) (gs_set (p := ⟨w.heap.size + 1, 0, none⟩) (gs_set (p := ⟨w1.heap.size, 3, none⟩) (T_4.out) (.inr (by show w.heap.size ≤ w1.heap.size; omega)) _) (.inr (by show w.heap.size ≤ w.heap.size + 1; omega)) _) (.inr (by show w.heap.size ≤ w.heap.size + 1; omega)) _) (.inr (by show w.heap.size ≤ w.heap.size + 1; omega)) _) (.inr (by show w.heap.size ≤ w.heap.size + 1; omega)) _)⟩
    all_goals
      rw [e9]
      exact rdb_mono (ow_rdb (own_set (p := ⟨w.heap.size + 1, 3, none⟩) (own_set (p := ⟨w.heap.size + 1, 2, none⟩) (own_set (p := ⟨w.heap.size + 1, 1, none⟩) (own_set (p := ⟨w.heap.size + 1, 0, none⟩) (own_set (p := ⟨w1.heap.size, 3, none⟩) ((ow_eq o_f_4.out rfl e9.symm)) (fun g h => by have h1 := lo_f.out g h; have h2 := hi_f.out g h; have h5 := iv_f.out g h; show g ≠ w1.heap.size; omega) _) (fun g h => by have h1 := lo_f.out g h; have h2 := hi_f.out g h; have h5 := iv_f.out g h; show g ≠ w.heap.size + 1; omega) _) (fun g h => by have h1 := lo_f.out g h; have h2 := hi_f.out g h; have h5 := iv_f.out g h; show g ≠ w.heap.size + 1; omega) _) (fun g h => by have h1 := lo_f.out g h; have h2 := hi_f.out g h; have h5 := iv_f.out g h; show g ≠ w.heap.size + 1; omega) _) (fun g h => by have h1 := lo_f.out g h; have h2 := hi_f.out g h; have h5 := iv_f.out g h; show g ≠ w.heap.size + 1; omega) _)) (by omega)
  by_cases hx3 : x = 3
  · subst hx3
    go_wp2_with fail
    (with_reducible refine (S_num _ r _ [100, -1, 5] (N + 1) (rdr_b (R_2.out) (below_alloc _ _)) (by omega) (rdb_lit _ #[.int .i64 100, .int .i64 (-1), .int .i64 5] [100, -1, 5] rfl (r + 1) (w2.heap.size) 3 (by first | rfl | simp) rfl (by first | omega | (simp; omega))) (by decide) (by decide)).mono ?_)
    rintro e w3 ⟨y, rfl, hy, hr1, hg⟩
    have c_R0_3 := cell_gs (cell_b (c_R0_2) (below_alloc _ _)) hg (by show w.heap.size + 1 ≠ r; omega)
    have c_R1_3 := cell_gs (cell_b (c_R1_2) (below_alloc _ _)) hg (by show w.heap.size + 1 ≠ r; omega)
    have c_R2_3 := cell_gs (cell_b (c_R2_2) (below_alloc _ _)) hg (by show w.heap.size + 1 ≠ r; omega)
    have c_R3_3 := cell_gs (cell_b (c_R3_2) (below_alloc _ _)) hg (by show w.heap.size + 1 ≠ r; omega)
    have c_O0_3 := cell_gs (cell_b (c_O0_2) (below_alloc _ _)) hg (by show w1.heap.size ≠ r; omega)
    have c_O1_3 := cell_gs (cell_b (c_O1_2) (below_alloc _ _)) hg (by show w1.heap.size ≠ r; omega)
    have c_O2_3 := cell_gs (cell_b (c_O2_2) (below_alloc _ _)) hg (by show w1.heap.size ≠ r; omega)
    have c_O3_3 := cell_gs (cell_b (c_O3_2) (below_alloc _ _)) hg (by show w1.heap.size ≠ r; omega)
    have f_R0_3 := frz_gs (p := ⟨w.heap.size + 1, 0, none⟩) (cell_lt (cell_b (c_R0_2) (below_alloc _ _))) (frz_b (cell_lt (c_R0_2)) (f_R0_2) (below_alloc _ _)) hg (by show w.heap.size + 1 ≠ r; omega)
    have f_R1_3 := frz_gs (p := ⟨w.heap.size + 1, 1, none⟩) (cell_lt (cell_b (c_R1_2) (below_alloc _ _))) (frz_b (cell_lt (c_R1_2)) (f_R1_2) (below_alloc _ _)) hg (by show w.heap.size + 1 ≠ r; omega)
    have f_R2_3 := frz_gs (p := ⟨w.heap.size + 1, 2, none⟩) (cell_lt (cell_b (c_R2_2) (below_alloc _ _))) (frz_b (cell_lt (c_R2_2)) (f_R2_2) (below_alloc _ _)) hg (by show w.heap.size + 1 ≠ r; omega)
    have f_R3_3 := frz_gs (p := ⟨w.heap.size + 1, 3, none⟩) (cell_lt (cell_b (c_R3_2) (below_alloc _ _))) (frz_b (cell_lt (c_R3_2)) (f_R3_2) (below_alloc _ _)) hg (by show w.heap.size + 1 ≠ r; omega)
    have f_O0_3 := frz_gs (p := ⟨w1.heap.size, 0, none⟩) (cell_lt (cell_b (c_O0_2) (below_alloc _ _))) (frz_b (cell_lt (c_O0_2)) (f_O0_2) (below_alloc _ _)) hg (by show w1.heap.size ≠ r; omega)
    have f_O1_3 := frz_gs (p := ⟨w1.heap.size, 1, none⟩) (cell_lt (cell_b (c_O1_2) (below_alloc _ _))) (frz_b (cell_lt (c_O1_2)) (f_O1_2) (below_alloc _ _)) hg (by show w1.heap.size ≠ r; omega)
    have f_O2_3 := frz_gs (p := ⟨w1.heap.size, 2, none⟩) (cell_lt (cell_b (c_O2_2) (below_alloc _ _))) (frz_b (cell_lt (c_O2_2)) (f_O2_2) (below_alloc _ _)) hg (by show w1.heap.size ≠ r; omega)
    have f_O3_3 := frz_gs (p := ⟨w1.heap.size, 3, none⟩) (cell_lt (cell_b (c_O3_2) (below_alloc _ _))) (frz_b (cell_lt (c_O3_2)) (f_O3_2) (below_alloc _ _)) hg (by show w1.heap.size ≠ r; omega)
    have o_e_3 := Lib.hid (own_gr (own_below (o_e_2.out) (below_alloc _ _)) hg (fun g g' h h' => by injection h with h; have h3 := lo_e.out g' h'; omega))
    have R_3 := Lib.hid hr1
    have T_3 := Lib.hid (gs_trans (gs_trans (T_2.out) (gs_b (below_alloc _ _))) hg)
    have z_3 : w2.heap.size + 1 ≤ w3.heap.size := (by have := hg.size; (try simp at this); omega)
    have ac_R0_3 := fun o => cell_b (c_R0_3) (below_alloc _ o)
    have bc_R0_3 := fun o o1 => cell_b (ac_R0_3 o) (below_alloc _ o1)
    have ac_R1_3 := fun o => cell_b (c_R1_3) (below_alloc _ o)
    have bc_R1_3 := fun o o1 => cell_b (ac_R1_3 o) (below_alloc _ o1)
    have ac_R2_3 := fun o => cell_b (c_R2_3) (below_alloc _ o)
    have bc_R2_3 := fun o o1 => cell_b (ac_R2_3 o) (below_alloc _ o1)
    have ac_R3_3 := fun o => cell_b (c_R3_3) (below_alloc _ o)
    have bc_R3_3 := fun o o1 => cell_b (ac_R3_3 o) (below_alloc _ o1)
    have ac_O0_3 := fun o => cell_b (c_O0_3) (below_alloc _ o)
    have bc_O0_3 := fun o o1 => cell_b (ac_O0_3 o) (below_alloc _ o1)
    have ac_O1_3 := fun o => cell_b (c_O1_3) (below_alloc _ o)
    have bc_O1_3 := fun o o1 => cell_b (ac_O1_3 o) (below_alloc _ o1)
    have ac_O2_3 := fun o => cell_b (c_O2_3) (below_alloc _ o)
    have bc_O2_3 := fun o o1 => cell_b (ac_O2_3 o) (below_alloc _ o1)
    have ac_O3_3 := fun o => cell_b (c_O3_3) (below_alloc _ o)
    have bc_O3_3 := fun o o1 => cell_b (ac_O3_3 o) (below_alloc _ o1)
    have af_R0_3 := fun o => frz_b (cell_lt (c_R0_3)) (f_R0_3) (below_alloc _ o)
    have bf_R0_3 := fun o o1 => frz_b (cell_lt (ac_R0_3 o)) (af_R0_3 o) (below_alloc _ o1)
    have af_R1_3 := fun o => frz_b (cell_lt (c_R1_3)) (f_R1_3) (below_alloc _ o)
    have bf_R1_3 := fun o o1 => frz_b (cell_lt (ac_R1_3 o)) (af_R1_3 o) (below_alloc _ o1)
    have af_R2_3 := fun o => frz_b (cell_lt (c_R2_3)) (f_R2_3) (below_alloc _ o)
    have bf_R2_3 := fun o o1 => frz_b (cell_lt (ac_R2_3 o)) (af_R2_3 o) (below_alloc _ o1)
    have af_R3_3 := fun o => frz_b (cell_lt (c_R3_3)) (f_R3_3) (below_alloc _ o)
    have bf_R3_3 := fun o o1 => frz_b (cell_lt (ac_R3_3 o)) (af_R3_3 o) (below_alloc _ o1)
    have af_O0_3 := fun o => frz_b (cell_lt (c_O0_3)) (f_O0_3) (below_alloc _ o)
    have bf_O0_3 := fun o o1 => frz_b (cell_lt (ac_O0_3 o)) (af_O0_3 o) (below_alloc _ o1)
    have af_O1_3 := fun o => frz_b (cell_lt (c_O1_3)) (f_O1_3) (below_alloc _ o)
    have bf_O1_3 := fun o o1 => frz_b (cell_lt (ac_O1_3 o)) (af_O1_3 o) (below_alloc _ o1)
    have af_O2_3 := fun o => frz_b (cell_lt (c_O2_3)) (f_O2_3) (below_alloc _ o)
    have bf_O2_3 := fun o o1 => frz_b (cell_lt (ac_O2_3 o)) (af_O2_3 o) (below_alloc _ o1)
    have af_O3_3 := fun o => frz_b (cell_lt (c_O3_3)) (f_O3_3) (below_alloc _ o)
    have bf_O3_3 := fun o o1 => frz_b (cell_lt (ac_O3_3 o)) (af_O3_3 o) (below_alloc _ o1)
    clear hg c_R0_2 c_R1_2 c_R2_2 c_R3_2 c_O0_2 c_O1_2 c_O2_2 c_O3_2 f_R0_2 f_R1_2 f_R2_2 f_R3_2 f_O0_2 f_O1_2 f_O2_2 f_O3_2 o_e_2 hr1 R_2 T_2 ac_R0_2 bc_R0_2 ac_R1_2 bc_R1_2 ac_R2_2 bc_R2_2 ac_R3_2 bc_R3_2 ac_O0_2 bc_O0_2 ac_O1_2 bc_O1_2 ac_O2_2 bc_O2_2 ac_O3_2 bc_O3_2 af_R0_2 bf_R0_2 af_R1_2 bf_R1_2 af_R2_2 bf_R2_2 af_R3_2 bf_R3_2 af_O0_2 bf_O0_2 af_O1_2 bf_O1_2 af_O2_2 bf_O2_2 af_O3_2 bf_O3_2 hy
    go_wp2_with fail
    refine bodyPost_ret (v := .agg #[.int .i64 s, .int .i64 o, .int .i64 y, .slice a1 xs.length cap1]) (by simp [results, Try.results50, go_sem, c_R0_3, c_R1_3, c_R2_3, c_R3_3]) rfl ⟨s, o, y, xs, a1, cap1, rfl, by omega, rdb_mono (ow_rdb (own_set (p := ⟨w.heap.size + 1, 3, none⟩) (own_set (p := ⟨w.heap.size + 1, 2, none⟩) (own_set (p := ⟨w.heap.size + 1, 1, none⟩) (own_set (p := ⟨w.heap.size + 1, 0, none⟩) (own_set (p := ⟨w1.heap.size, 2, none⟩) (o_e_3.out) (fun g h => by have h1 := lo_e.out g h; have h2 := hi_e.out g h; show g ≠ w1.heap.size; omega) _) (fun g h => by have h1 := lo_e.out g h; have h2 := hi_e.out g h; show g ≠ w.heap.size + 1; omega) _) (fun g h => by have h1 := lo_e.out g h; have h2 := hi_e.out g h; show g ≠ w.heap.size + 1; omega) _) (fun g h => by have h1 := lo_e.out g h; have h2 := hi_e.out g h; show g ≠ w.heap.size + 1; omega) _) (fun g h => by have h1 := lo_e.out g h; have h2 := hi_e.out g h; show g ≠ w.heap.size + 1; omega) _)) (by omega), rdr_mono (rdr_set (p := ⟨w.heap.size + 1, 3, none⟩) (rdr_set (p := ⟨w.heap.size + 1, 2, none⟩) (rdr_set (p := ⟨w.heap.size + 1, 1, none⟩) (rdr_set (p := ⟨w.heap.size + 1, 0, none⟩) (rdr_set (p := ⟨w1.heap.size, 2, none⟩) (R_3.out) (by show r < w1.heap.size; omega) _) (by show r < w.heap.size + 1; omega) _) (by show r < w.heap.size + 1; omega) _) (by show r < w.heap.size + 1; omega) _) (by show r < w.heap.size + 1; omega) _) (by omega), (gs_set (p := ⟨w.heap.size + 1, 3, none⟩) (gs_set (p := ⟨w.heap.size + 1, 2, none⟩) (gs_set (p := ⟨w.heap.size + 1, 1, none⟩) (gs_set (p := ⟨w.heap.size + 1, 0, none⟩) (gs_set (p := ⟨w1.heap.size, 2, none⟩) (T_3.out) (.inr (by show w.heap.size ≤ w1.heap.size; omega)) _) (.inr (by show w.heap.size ≤ w.heap.size + 1; omega)) _) (.inr (by show w.heap.size ≤ w.heap.size + 1; omega)) _) (.inr (by show w.heap.size ≤ w.heap.size + 1; omega)) _) (.inr (by show w.heap.size ≤ w.heap.size + 1; omega)) _)⟩
  have n0 : (x == 0) = false := by simpa using hx0
  have n1 : (x == 1) = false := by simpa using hx1
  have n2 : (x == 2) = false := by simpa using hx2
  have n3 : (x == 3) = false := by simpa using hx3
  go_wp2_with fail
  refine bodyPost_ret (v := .agg #[.int .i64 s, .int .i64 o, .int .i64 k, .slice a1 xs.length cap1]) (by simp [results, Try.results50, go_sem, c_R0_2, c_R1_2, c_R2_2, c_R3_2]) rfl ⟨s, o, k, xs, a1, cap1, rfl, by omega, rdb_mono (ow_rdb (own_set (p := ⟨w.heap.size + 1, 3, none⟩) (own_set (p := ⟨w.heap.size + 1, 2, none⟩) (own_set (p := ⟨w.heap.size + 1, 1, none⟩) (own_set (p := ⟨w.heap.size + 1, 0, none⟩) (o_e_2.out) (fun g h => by have h1 := lo_e.out g h; have h2 := hi_e.out g h; show g ≠ w.heap.size + 1; omega) _) (fun g h => by have h1 := lo_e.out g h; have h2 := hi_e.out g h; show g ≠ w.heap.size + 1; omega) _) (fun g h => by have h1 := lo_e.out g h; have h2 := hi_e.out g h; show g ≠ w.heap.size + 1; omega) _) (fun g h => by have h1 := lo_e.out g h; have h2 := hi_e.out g h; show g ≠ w.heap.size + 1; omega) _)) (by omega), rdr_mono (rdr_set (p := ⟨w.heap.size + 1, 3, none⟩) (rdr_set (p := ⟨w.heap.size + 1, 2, none⟩) (rdr_set (p := ⟨w.heap.size + 1, 1, none⟩) (rdr_set (p := ⟨w.heap.size + 1, 0, none⟩) (R_2.out) (by show r < w.heap.size + 1; omega) _) (by show r < w.heap.size + 1; omega) _) (by show r < w.heap.size + 1; omega) _) (by show r < w.heap.size + 1; omega) _) (by omega), (gs_set (p := ⟨w.heap.size + 1, 3, none⟩) (gs_set (p := ⟨w.heap.size + 1, 2, none⟩) (gs_set (p := ⟨w.heap.size + 1, 1, none⟩) (gs_set (p := ⟨w.heap.size + 1, 0, none⟩) (T_2.out) (.inr (by show w.heap.size ≤ w.heap.size + 1; omega)) _) (.inr (by show w.heap.size ≤ w.heap.size + 1; omega)) _) (.inr (by show w.heap.size ≤ w.heap.size + 1; omega)) _) (.inr (by show w.heap.size ≤ w.heap.size + 1; omega)) _)⟩
end Go.Proofs.Ytgdhbhgkfcgjdaa
