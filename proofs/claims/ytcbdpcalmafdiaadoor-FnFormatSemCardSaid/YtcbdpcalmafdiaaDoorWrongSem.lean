/- What l1Wrong hands back. -/
import Derived.Test.YtcbdpcalmafdiaaDoorDrawSem
import Derived.Test.YtcbdpcalmafdiaaDoorGuard
import Derived.Deep.RegionHeld3
import Derived.Deep.RegionLaw
import Derived.Deep.DrawnRows
namespace Go.Proofs.YtcbdpcalmafdiaaDoor
open Go.RowKit
attribute [local go_sem ↓] Go.wp_at_zero Go.wp_at_succ

set_option maxHeartbeats 4000000 in
set_option maxRecDepth 100000 in
theorem S_l1Wrong (w : World) (r N : Nat) (p q : Int) (v : Value) (xs : List (Int × Int)) (hr : Rdr w r N) (hN : N ≤ 10000) (hv : RdWB w (r + 1) v xs) (hl : xs.length ≤ 900) :
    Calls Tryd.prog 28 #[.pointer (some ⟨r, 0, none⟩), .agg #[.int .i64 p, .int .i64 q, v]] w (SemD w r (N + 3) (xs.length + 1)) := by
  obtain ⟨j0, hj, hy0, hy1, hy2⟩ := info_parts infoW
  have R_0 := Lib.hid hr
  have hrw := rdr_lt hr
  have r_d_0 := Lib.hid hv
  have lr_d := Lib.hid (rdxb_lo hv)
  have hr_d := Lib.hid (rdxb_hi hv)
  obtain ⟨⟨a, cap, rfl, hcap, hnc, hlen, hc⟩, hb⟩ := hv
  clear hr hnc hc hb hlen
  go_enter Tryd.func28, Tryd.ntmps28
  have T_0 : Hid (w.grownBy w (some r)) := Lib.hid (gs_refl _ _)
  go_wp2_with fail
  (with_reducible refine (S_l1Copy _ p q _ xs (rdxb_mono (rdxb_b (rdxb_b (r_d_0.out) (below_alloc _ _)) (below_alloc _ _)) (Nat.zero_le _)) (by omega)).mono ?_)
  rintro e w1 ⟨a0, cap0, rfl, hd, hb⟩
  have c_A0_1 := cell_b (p := ⟨w.heap.size, 0, none⟩) (v := .int .i64 p) (by first | (simp; done) | (simp [World.cell?_alloc_past, World.cell?_alloc_at]; done)) hb
  have c_A1_1 := cell_b (p := ⟨w.heap.size, 1, none⟩) (v := .int .i64 q) (by first | (simp; done) | (simp [World.cell?_alloc_past, World.cell?_alloc_at]; done)) hb
  have c_A2_1 := cell_b (p := ⟨w.heap.size, 2, none⟩) (v := .slice a xs.length cap) (by first | (simp; done) | (simp [World.cell?_alloc_past, World.cell?_alloc_at]; done)) hb
  have c_R0_1 := cell_b (p := ⟨w.heap.size + 1, 0, none⟩) (v := .int .i64 0) (by first | (simp; done) | (simp [World.cell?_alloc_past, World.cell?_alloc_at]; done)) hb
  have f_R0_1 := frz_b (p := ⟨w.heap.size + 1, 0, none⟩) (by first | omega | (simp; done) | (simp; omega)) (show _ = false by first | (simp; done) | (simp [World.frozen?_alloc_past, World.frozen?_alloc_at]; done)) hb
  have c_R1_1 := cell_b (p := ⟨w.heap.size + 1, 1, none⟩) (v := .int .i64 0) (by first | (simp; done) | (simp [World.cell?_alloc_past, World.cell?_alloc_at]; done)) hb
  have f_R1_1 := frz_b (p := ⟨w.heap.size + 1, 1, none⟩) (by first | omega | (simp; done) | (simp; omega)) (show _ = false by first | (simp; done) | (simp [World.frozen?_alloc_past, World.frozen?_alloc_at]; done)) hb
  have c_R2_1 := cell_b (p := ⟨w.heap.size + 1, 2, none⟩) (v := .slice none 0 0) (by first | (simp; done) | (simp [World.cell?_alloc_past, World.cell?_alloc_at]; done)) hb
  have f_R2_1 := frz_b (p := ⟨w.heap.size + 1, 2, none⟩) (by first | omega | (simp; done) | (simp; omega)) (show _ = false by first | (simp; done) | (simp [World.frozen?_alloc_past, World.frozen?_alloc_at]; done)) hb
  have r_d_1 := Lib.hid (rdxb_b (rdxb_b (rdxb_b (r_d_0.out) (below_alloc _ _)) (below_alloc _ _)) hb)
  have R_1 := Lib.hid (rdr_b (rdr_b (rdr_b (R_0.out) (below_alloc _ _)) (below_alloc _ _)) hb)
  have T_1 := Lib.hid (gs_trans (gs_trans (gs_trans (T_0.out) (gs_b (below_alloc _ _))) (gs_b (below_alloc _ _))) (gs_b hb))
  have z_1 : w.heap.size + 2 ≤ w1.heap.size := (by have := hb.size; (try simp at this); omega)
  have o_e_1 := Lib.hid (own_base hd (show w.heap.size + 2 ≤ _ by first | omega | (simp; done) | (simp; omega)))
  have lo_e := Lib.hid (own_lo o_e_1.out)
  have hi_e := Lib.hid (own_hi o_e_1.out)
  have ac_A0_1 := fun o => cell_b (c_A0_1) (below_alloc _ o)
  have bc_A0_1 := fun o o1 => cell_b (ac_A0_1 o) (below_alloc _ o1)
  have ac_A1_1 := fun o => cell_b (c_A1_1) (below_alloc _ o)
  have bc_A1_1 := fun o o1 => cell_b (ac_A1_1 o) (below_alloc _ o1)
  have ac_A2_1 := fun o => cell_b (c_A2_1) (below_alloc _ o)
  have bc_A2_1 := fun o o1 => cell_b (ac_A2_1 o) (below_alloc _ o1)
  have ac_R0_1 := fun o => cell_b (c_R0_1) (below_alloc _ o)
  have bc_R0_1 := fun o o1 => cell_b (ac_R0_1 o) (below_alloc _ o1)
  have ac_R1_1 := fun o => cell_b (c_R1_1) (below_alloc _ o)
  have bc_R1_1 := fun o o1 => cell_b (ac_R1_1 o) (below_alloc _ o1)
  have ac_R2_1 := fun o => cell_b (c_R2_1) (below_alloc _ o)
  have bc_R2_1 := fun o o1 => cell_b (ac_R2_1 o) (below_alloc _ o1)
  have af_R0_1 := fun o => frz_b (cell_lt (c_R0_1)) (f_R0_1) (below_alloc _ o)
  have bf_R0_1 := fun o o1 => frz_b (cell_lt (ac_R0_1 o)) (af_R0_1 o) (below_alloc _ o1)
  have af_R1_1 := fun o => frz_b (cell_lt (c_R1_1)) (f_R1_1) (below_alloc _ o)
  have bf_R1_1 := fun o o1 => frz_b (cell_lt (ac_R1_1 o)) (af_R1_1 o) (below_alloc _ o1)
  have af_R2_1 := fun o => frz_b (cell_lt (c_R2_1)) (f_R2_1) (below_alloc _ o)
  have bf_R2_1 := fun o o1 => frz_b (cell_lt (ac_R2_1 o)) (af_R2_1 o) (below_alloc _ o1)
  clear hb r_d_0 R_0 T_0 hd
  clear r_d_1 lr_d hr_d
  go_wp2_with fail
  (with_reducible refine (S_pick _ r _ _ (rdr_b (R_1.out) (below_alloc _ _)) (by omega) (by omega)).mono ?_)
  rintro e w2 ⟨x, rfl, hx0, hx1, hr1, hg⟩
  have c_A0_2 := cell_gs (cell_b (c_A0_1) (below_alloc _ _)) hg (by show w.heap.size ≠ r; omega)
  have c_A1_2 := cell_gs (cell_b (c_A1_1) (below_alloc _ _)) hg (by show w.heap.size ≠ r; omega)
  have c_A2_2 := cell_gs (cell_b (c_A2_1) (below_alloc _ _)) hg (by show w.heap.size ≠ r; omega)
  have c_R0_2 := cell_gs (cell_b (c_R0_1) (below_alloc _ _)) hg (by show w.heap.size + 1 ≠ r; omega)
  have c_R1_2 := cell_gs (cell_b (c_R1_1) (below_alloc _ _)) hg (by show w.heap.size + 1 ≠ r; omega)
  have c_R2_2 := cell_gs (cell_b (c_R2_1) (below_alloc _ _)) hg (by show w.heap.size + 1 ≠ r; omega)
  have f_R0_2 := frz_gs (p := ⟨w.heap.size + 1, 0, none⟩) (cell_lt (cell_b (c_R0_1) (below_alloc _ _))) (frz_b (cell_lt (c_R0_1)) (f_R0_1) (below_alloc _ _)) hg (by show w.heap.size + 1 ≠ r; omega)
  have f_R1_2 := frz_gs (p := ⟨w.heap.size + 1, 1, none⟩) (cell_lt (cell_b (c_R1_1) (below_alloc _ _))) (frz_b (cell_lt (c_R1_1)) (f_R1_1) (below_alloc _ _)) hg (by show w.heap.size + 1 ≠ r; omega)
  have f_R2_2 := frz_gs (p := ⟨w.heap.size + 1, 2, none⟩) (cell_lt (cell_b (c_R2_1) (below_alloc _ _))) (frz_b (cell_lt (c_R2_1)) (f_R2_1) (below_alloc _ _)) hg (by show w.heap.size + 1 ≠ r; omega)
  have c_O0_2 := cell_gs (p := ⟨w1.heap.size, 0, none⟩) (v := .int .i64 p) (by first | (simp; done) | (simp [World.cell?_alloc_past, World.cell?_alloc_at]; done)) hg (by show w1.heap.size ≠ r; omega)
  have f_O0_2 := frz_gs (p := ⟨w1.heap.size, 0, none⟩) (by first | omega | (simp; done) | (simp; omega)) (show _ = false by first | (simp; done) | (simp [World.frozen?_alloc_past, World.frozen?_alloc_at]; done)) hg (by show w1.heap.size ≠ r; omega)
  have c_O1_2 := cell_gs (p := ⟨w1.heap.size, 1, none⟩) (v := .int .i64 q) (by first | (simp; done) | (simp [World.cell?_alloc_past, World.cell?_alloc_at]; done)) hg (by show w1.heap.size ≠ r; omega)
  have f_O1_2 := frz_gs (p := ⟨w1.heap.size, 1, none⟩) (by first | omega | (simp; done) | (simp; omega)) (show _ = false by first | (simp; done) | (simp [World.frozen?_alloc_past, World.frozen?_alloc_at]; done)) hg (by show w1.heap.size ≠ r; omega)
  have c_O2_2 := cell_gs (p := ⟨w1.heap.size, 2, none⟩) (v := .slice a0 xs.length cap0) (by first | (simp; done) | (simp [World.cell?_alloc_past, World.cell?_alloc_at]; done)) hg (by show w1.heap.size ≠ r; omega)
  have f_O2_2 := frz_gs (p := ⟨w1.heap.size, 2, none⟩) (by first | omega | (simp; done) | (simp; omega)) (show _ = false by first | (simp; done) | (simp [World.frozen?_alloc_past, World.frozen?_alloc_at]; done)) hg (by show w1.heap.size ≠ r; omega)
  have o_e_2 := Lib.hid (own_gr (own_below (o_e_1.out) (below_alloc _ _)) hg (fun g g' h h' => by injection h with h; have h3 := lo_e.out g' h'; omega))
  have R_2 := Lib.hid hr1
  have T_2 := Lib.hid (gs_trans (gs_trans (T_1.out) (gs_b (below_alloc _ _))) hg)
  have z_2 : w1.heap.size + 1 ≤ w2.heap.size := (by have := hg.size; (try simp at this); omega)
  have ac_A0_2 := fun o => cell_b (c_A0_2) (below_alloc _ o)
  have bc_A0_2 := fun o o1 => cell_b (ac_A0_2 o) (below_alloc _ o1)
  have ac_A1_2 := fun o => cell_b (c_A1_2) (below_alloc _ o)
  have bc_A1_2 := fun o o1 => cell_b (ac_A1_2 o) (below_alloc _ o1)
  have ac_A2_2 := fun o => cell_b (c_A2_2) (below_alloc _ o)
  have bc_A2_2 := fun o o1 => cell_b (ac_A2_2 o) (below_alloc _ o1)
  have ac_R0_2 := fun o => cell_b (c_R0_2) (below_alloc _ o)
  have bc_R0_2 := fun o o1 => cell_b (ac_R0_2 o) (below_alloc _ o1)
  have ac_R1_2 := fun o => cell_b (c_R1_2) (below_alloc _ o)
  have bc_R1_2 := fun o o1 => cell_b (ac_R1_2 o) (below_alloc _ o1)
  have ac_R2_2 := fun o => cell_b (c_R2_2) (below_alloc _ o)
  have bc_R2_2 := fun o o1 => cell_b (ac_R2_2 o) (below_alloc _ o1)
  have ac_O0_2 := fun o => cell_b (c_O0_2) (below_alloc _ o)
  have bc_O0_2 := fun o o1 => cell_b (ac_O0_2 o) (below_alloc _ o1)
  have ac_O1_2 := fun o => cell_b (c_O1_2) (below_alloc _ o)
  have bc_O1_2 := fun o o1 => cell_b (ac_O1_2 o) (below_alloc _ o1)
  have ac_O2_2 := fun o => cell_b (c_O2_2) (below_alloc _ o)
  have bc_O2_2 := fun o o1 => cell_b (ac_O2_2 o) (below_alloc _ o1)
  have af_R0_2 := fun o => frz_b (cell_lt (c_R0_2)) (f_R0_2) (below_alloc _ o)
  have bf_R0_2 := fun o o1 => frz_b (cell_lt (ac_R0_2 o)) (af_R0_2 o) (below_alloc _ o1)
  have af_R1_2 := fun o => frz_b (cell_lt (c_R1_2)) (f_R1_2) (below_alloc _ o)
  have bf_R1_2 := fun o o1 => frz_b (cell_lt (ac_R1_2 o)) (af_R1_2 o) (below_alloc _ o1)
  have af_R2_2 := fun o => frz_b (cell_lt (c_R2_2)) (f_R2_2) (below_alloc _ o)
  have bf_R2_2 := fun o o1 => frz_b (cell_lt (ac_R2_2 o)) (af_R2_2 o) (below_alloc _ o1)
  have af_O0_2 := fun o => frz_b (cell_lt (c_O0_2)) (f_O0_2) (below_alloc _ o)
  have bf_O0_2 := fun o o1 => frz_b (cell_lt (ac_O0_2 o)) (af_O0_2 o) (below_alloc _ o1)
  have af_O1_2 := fun o => frz_b (cell_lt (c_O1_2)) (f_O1_2) (below_alloc _ o)
  have bf_O1_2 := fun o o1 => frz_b (cell_lt (ac_O1_2 o)) (af_O1_2 o) (below_alloc _ o1)
  have af_O2_2 := fun o => frz_b (cell_lt (c_O2_2)) (f_O2_2) (below_alloc _ o)
  have bf_O2_2 := fun o o1 => frz_b (cell_lt (ac_O2_2 o)) (af_O2_2 o) (below_alloc _ o1)
  clear hg c_A0_1 c_A1_1 c_A2_1 c_R0_1 c_R1_1 c_R2_1 f_R0_1 f_R1_1 f_R2_1 o_e_1 hr1 R_1 T_1 ac_A0_1 bc_A0_1 ac_A1_1 bc_A1_1 ac_A2_1 bc_A2_1 ac_R0_1 bc_R0_1 ac_R1_1 bc_R1_1 ac_R2_1 bc_R2_1 af_R0_1 bf_R0_1 af_R1_1 bf_R1_1 af_R2_1 bf_R2_1 hx1
  by_cases hx0 : x = 0
  · subst hx0
    go_wp2_with fail
    (with_reducible refine (S_num _ r _ [-1, 10, 0, 1] (N + 1) (rdr_b (R_2.out) (below_alloc _ _)) (by omega) (rdb_lit _ #[.int .i64 (-1), .int .i64 10, .int .i64 0, .int .i64 1] [-1, 10, 0, 1] rfl (r + 1) (w2.heap.size) 4 (by first | rfl | simp) rfl (by first | omega | (simp; omega))) (by decide) (by decide)).mono ?_)
    rintro e w3 ⟨y, rfl, hy, hr1, hg⟩
    have c_A0_3 := cell_gs (cell_b (c_A0_2) (below_alloc _ _)) hg (by show w.heap.size ≠ r; omega)
    have c_A1_3 := cell_gs (cell_b (c_A1_2) (below_alloc _ _)) hg (by show w.heap.size ≠ r; omega)
    have c_A2_3 := cell_gs (cell_b (c_A2_2) (below_alloc _ _)) hg (by show w.heap.size ≠ r; omega)
    have c_R0_3 := cell_gs (cell_b (c_R0_2) (below_alloc _ _)) hg (by show w.heap.size + 1 ≠ r; omega)
    have c_R1_3 := cell_gs (cell_b (c_R1_2) (below_alloc _ _)) hg (by show w.heap.size + 1 ≠ r; omega)
    have c_R2_3 := cell_gs (cell_b (c_R2_2) (below_alloc _ _)) hg (by show w.heap.size + 1 ≠ r; omega)
    have c_O0_3 := cell_gs (cell_b (c_O0_2) (below_alloc _ _)) hg (by show w1.heap.size ≠ r; omega)
    have c_O1_3 := cell_gs (cell_b (c_O1_2) (below_alloc _ _)) hg (by show w1.heap.size ≠ r; omega)
    have c_O2_3 := cell_gs (cell_b (c_O2_2) (below_alloc _ _)) hg (by show w1.heap.size ≠ r; omega)
    have f_R0_3 := frz_gs (p := ⟨w.heap.size + 1, 0, none⟩) (cell_lt (cell_b (c_R0_2) (below_alloc _ _))) (frz_b (cell_lt (c_R0_2)) (f_R0_2) (below_alloc _ _)) hg (by show w.heap.size + 1 ≠ r; omega)
    have f_R1_3 := frz_gs (p := ⟨w.heap.size + 1, 1, none⟩) (cell_lt (cell_b (c_R1_2) (below_alloc _ _))) (frz_b (cell_lt (c_R1_2)) (f_R1_2) (below_alloc _ _)) hg (by show w.heap.size + 1 ≠ r; omega)
    have f_R2_3 := frz_gs (p := ⟨w.heap.size + 1, 2, none⟩) (cell_lt (cell_b (c_R2_2) (below_alloc _ _))) (frz_b (cell_lt (c_R2_2)) (f_R2_2) (below_alloc _ _)) hg (by show w.heap.size + 1 ≠ r; omega)
    have f_O0_3 := frz_gs (p := ⟨w1.heap.size, 0, none⟩) (cell_lt (cell_b (c_O0_2) (below_alloc _ _))) (frz_b (cell_lt (c_O0_2)) (f_O0_2) (below_alloc _ _)) hg (by show w1.heap.size ≠ r; omega)
    have f_O1_3 := frz_gs (p := ⟨w1.heap.size, 1, none⟩) (cell_lt (cell_b (c_O1_2) (below_alloc _ _))) (frz_b (cell_lt (c_O1_2)) (f_O1_2) (below_alloc _ _)) hg (by show w1.heap.size ≠ r; omega)
    have f_O2_3 := frz_gs (p := ⟨w1.heap.size, 2, none⟩) (cell_lt (cell_b (c_O2_2) (below_alloc _ _))) (frz_b (cell_lt (c_O2_2)) (f_O2_2) (below_alloc _ _)) hg (by show w1.heap.size ≠ r; omega)
    have o_e_3 := Lib.hid (own_gr (own_below (o_e_2.out) (below_alloc _ _)) hg (fun g g' h h' => by injection h with h; have h3 := lo_e.out g' h'; omega))
    have R_3 := Lib.hid hr1
    have T_3 := Lib.hid (gs_trans (gs_trans (T_2.out) (gs_b (below_alloc _ _))) hg)
    have z_3 : w2.heap.size + 1 ≤ w3.heap.size := (by have := hg.size; (try simp at this); omega)
    have ac_A0_3 := fun o => cell_b (c_A0_3) (below_alloc _ o)
    have bc_A0_3 := fun o o1 => cell_b (ac_A0_3 o) (below_alloc _ o1)
    have ac_A1_3 := fun o => cell_b (c_A1_3) (below_alloc _ o)
    have bc_A1_3 := fun o o1 => cell_b (ac_A1_3 o) (below_alloc _ o1)
    have ac_A2_3 := fun o => cell_b (c_A2_3) (below_alloc _ o)
    have bc_A2_3 := fun o o1 => cell_b (ac_A2_3 o) (below_alloc _ o1)
    have ac_R0_3 := fun o => cell_b (c_R0_3) (below_alloc _ o)
    have bc_R0_3 := fun o o1 => cell_b (ac_R0_3 o) (below_alloc _ o1)
    have ac_R1_3 := fun o => cell_b (c_R1_3) (below_alloc _ o)
    have bc_R1_3 := fun o o1 => cell_b (ac_R1_3 o) (below_alloc _ o1)
    have ac_R2_3 := fun o => cell_b (c_R2_3) (below_alloc _ o)
    have bc_R2_3 := fun o o1 => cell_b (ac_R2_3 o) (below_alloc _ o1)
    have ac_O0_3 := fun o => cell_b (c_O0_3) (below_alloc _ o)
    have bc_O0_3 := fun o o1 => cell_b (ac_O0_3 o) (below_alloc _ o1)
    have ac_O1_3 := fun o => cell_b (c_O1_3) (below_alloc _ o)
    have bc_O1_3 := fun o o1 => cell_b (ac_O1_3 o) (below_alloc _ o1)
    have ac_O2_3 := fun o => cell_b (c_O2_3) (below_alloc _ o)
    have bc_O2_3 := fun o o1 => cell_b (ac_O2_3 o) (below_alloc _ o1)
    have af_R0_3 := fun o => frz_b (cell_lt (c_R0_3)) (f_R0_3) (below_alloc _ o)
    have bf_R0_3 := fun o o1 => frz_b (cell_lt (ac_R0_3 o)) (af_R0_3 o) (below_alloc _ o1)
    have af_R1_3 := fun o => frz_b (cell_lt (c_R1_3)) (f_R1_3) (below_alloc _ o)
    have bf_R1_3 := fun o o1 => frz_b (cell_lt (ac_R1_3 o)) (af_R1_3 o) (below_alloc _ o1)
    have af_R2_3 := fun o => frz_b (cell_lt (c_R2_3)) (f_R2_3) (below_alloc _ o)
    have bf_R2_3 := fun o o1 => frz_b (cell_lt (ac_R2_3 o)) (af_R2_3 o) (below_alloc _ o1)
    have af_O0_3 := fun o => frz_b (cell_lt (c_O0_3)) (f_O0_3) (below_alloc _ o)
    have bf_O0_3 := fun o o1 => frz_b (cell_lt (ac_O0_3 o)) (af_O0_3 o) (below_alloc _ o1)
    have af_O1_3 := fun o => frz_b (cell_lt (c_O1_3)) (f_O1_3) (below_alloc _ o)
    have bf_O1_3 := fun o o1 => frz_b (cell_lt (ac_O1_3 o)) (af_O1_3 o) (below_alloc _ o1)
    have af_O2_3 := fun o => frz_b (cell_lt (c_O2_3)) (f_O2_3) (below_alloc _ o)
    have bf_O2_3 := fun o o1 => frz_b (cell_lt (ac_O2_3 o)) (af_O2_3 o) (below_alloc _ o1)
    clear hg c_A0_2 c_A1_2 c_A2_2 c_R0_2 c_R1_2 c_R2_2 c_O0_2 c_O1_2 c_O2_2 f_R0_2 f_R1_2 f_R2_2 f_O0_2 f_O1_2 f_O2_2 o_e_2 hr1 R_2 T_2 ac_A0_2 bc_A0_2 ac_A1_2 bc_A1_2 ac_A2_2 bc_A2_2 ac_R0_2 bc_R0_2 ac_R1_2 bc_R1_2 ac_R2_2 bc_R2_2 ac_O0_2 bc_O0_2 ac_O1_2 bc_O1_2 ac_O2_2 bc_O2_2 af_R0_2 bf_R0_2 af_R1_2 bf_R1_2 af_R2_2 bf_R2_2 af_O0_2 bf_O0_2 af_O1_2 bf_O1_2 af_O2_2 bf_O2_2 hy
    go_wp2_with fail
    refine bodyPost_ret (v := .agg #[.int .i64 y, .int .i64 q, .slice a0 xs.length cap0]) (by simp [results, Tryd.results28, go_sem, c_R0_3, c_R1_3, c_R2_3]) rfl ⟨y, q, xs, a0, cap0, rfl, by omega, rdxb_mono (own_rdxb (own_set (p := ⟨w.heap.size + 1, 2, none⟩) (own_set (p := ⟨w.heap.size + 1, 1, none⟩) (own_set (p := ⟨w.heap.size + 1, 0, none⟩) (own_set (p := ⟨w1.heap.size, 0, none⟩) (o_e_3.out) (fun g h => by have h1 := lo_e.out g h; have h2 := hi_e.out g h; show g ≠ w1.heap.size; omega) _) (fun g h => by have h1 := lo_e.out g h; have h2 := hi_e.out g h; show g ≠ w.heap.size + 1; omega) _) (fun g h => by have h1 := lo_e.out g h; have h2 := hi_e.out g h; show g ≠ w.heap.size + 1; omega) _) (fun g h => by have h1 := lo_e.out g h; have h2 := hi_e.out g h; show g ≠ w.heap.size + 1; omega) _)) (by omega), rdr_mono (rdr_set (p := ⟨w.heap.size + 1, 2, none⟩) (rdr_set (p := ⟨w.heap.size + 1, 1, none⟩) (rdr_set (p := ⟨w.heap.size + 1, 0, none⟩) (rdr_set (p := ⟨w1.heap.size, 0, none⟩) (R_3.out) (by show r < w1.heap.size; omega) _) (by show r < w.heap.size + 1; omega) _) (by show r < w.heap.size + 1; omega) _) (by show r < w.heap.size + 1; omega) _) (by omega), (gs_set (p := ⟨w.heap.size + 1, 2, none⟩) (gs_set (p := ⟨w.heap.size + 1, 1, none⟩) (gs_set (p := ⟨w.heap.size + 1, 0, none⟩) (gs_set (p := ⟨w1.heap.size, 0, none⟩) (T_3.out) (.inr (by show w.heap.size ≤ w1.heap.size; omega)) _) (.inr (by show w.heap.size ≤ w.heap.size + 1; omega)) _) (.inr (by show w.heap.size ≤ w.heap.size + 1; omega)) _) (.inr (by show w.heap.size ≤ w.heap.size + 1; omega)) _)⟩
  by_cases hx1 : x = 1
  · subst hx1
    go_wp2_with fail
    (with_reducible refine (S_num _ r _ [0, 10, 1] (N + 1) (rdr_b (R_2.out) (below_alloc _ _)) (by omega) (rdb_lit _ #[.int .i64 0, .int .i64 10, .int .i64 1] [0, 10, 1] rfl (r + 1) (w2.heap.size) 3 (by first | rfl | simp) rfl (by first | omega | (simp; omega))) (by decide) (by decide)).mono ?_)
    rintro e w3 ⟨y, rfl, hy, hr1, hg⟩
    have c_A0_3 := cell_gs (cell_b (c_A0_2) (below_alloc _ _)) hg (by show w.heap.size ≠ r; omega)
    have c_A1_3 := cell_gs (cell_b (c_A1_2) (below_alloc _ _)) hg (by show w.heap.size ≠ r; omega)
    have c_A2_3 := cell_gs (cell_b (c_A2_2) (below_alloc _ _)) hg (by show w.heap.size ≠ r; omega)
    have c_R0_3 := cell_gs (cell_b (c_R0_2) (below_alloc _ _)) hg (by show w.heap.size + 1 ≠ r; omega)
    have c_R1_3 := cell_gs (cell_b (c_R1_2) (below_alloc _ _)) hg (by show w.heap.size + 1 ≠ r; omega)
    have c_R2_3 := cell_gs (cell_b (c_R2_2) (below_alloc _ _)) hg (by show w.heap.size + 1 ≠ r; omega)
    have c_O0_3 := cell_gs (cell_b (c_O0_2) (below_alloc _ _)) hg (by show w1.heap.size ≠ r; omega)
    have c_O1_3 := cell_gs (cell_b (c_O1_2) (below_alloc _ _)) hg (by show w1.heap.size ≠ r; omega)
    have c_O2_3 := cell_gs (cell_b (c_O2_2) (below_alloc _ _)) hg (by show w1.heap.size ≠ r; omega)
    have f_R0_3 := frz_gs (p := ⟨w.heap.size + 1, 0, none⟩) (cell_lt (cell_b (c_R0_2) (below_alloc _ _))) (frz_b (cell_lt (c_R0_2)) (f_R0_2) (below_alloc _ _)) hg (by show w.heap.size + 1 ≠ r; omega)
    have f_R1_3 := frz_gs (p := ⟨w.heap.size + 1, 1, none⟩) (cell_lt (cell_b (c_R1_2) (below_alloc _ _))) (frz_b (cell_lt (c_R1_2)) (f_R1_2) (below_alloc _ _)) hg (by show w.heap.size + 1 ≠ r; omega)
    have f_R2_3 := frz_gs (p := ⟨w.heap.size + 1, 2, none⟩) (cell_lt (cell_b (c_R2_2) (below_alloc _ _))) (frz_b (cell_lt (c_R2_2)) (f_R2_2) (below_alloc _ _)) hg (by show w.heap.size + 1 ≠ r; omega)
    have f_O0_3 := frz_gs (p := ⟨w1.heap.size, 0, none⟩) (cell_lt (cell_b (c_O0_2) (below_alloc _ _))) (frz_b (cell_lt (c_O0_2)) (f_O0_2) (below_alloc _ _)) hg (by show w1.heap.size ≠ r; omega)
    have f_O1_3 := frz_gs (p := ⟨w1.heap.size, 1, none⟩) (cell_lt (cell_b (c_O1_2) (below_alloc _ _))) (frz_b (cell_lt (c_O1_2)) (f_O1_2) (below_alloc _ _)) hg (by show w1.heap.size ≠ r; omega)
    have f_O2_3 := frz_gs (p := ⟨w1.heap.size, 2, none⟩) (cell_lt (cell_b (c_O2_2) (below_alloc _ _))) (frz_b (cell_lt (c_O2_2)) (f_O2_2) (below_alloc _ _)) hg (by show w1.heap.size ≠ r; omega)
    have o_e_3 := Lib.hid (own_gr (own_below (o_e_2.out) (below_alloc _ _)) hg (fun g g' h h' => by injection h with h; have h3 := lo_e.out g' h'; omega))
    have R_3 := Lib.hid hr1
    have T_3 := Lib.hid (gs_trans (gs_trans (T_2.out) (gs_b (below_alloc _ _))) hg)
    have z_3 : w2.heap.size + 1 ≤ w3.heap.size := (by have := hg.size; (try simp at this); omega)
    have ac_A0_3 := fun o => cell_b (c_A0_3) (below_alloc _ o)
    have bc_A0_3 := fun o o1 => cell_b (ac_A0_3 o) (below_alloc _ o1)
    have ac_A1_3 := fun o => cell_b (c_A1_3) (below_alloc _ o)
    have bc_A1_3 := fun o o1 => cell_b (ac_A1_3 o) (below_alloc _ o1)
    have ac_A2_3 := fun o => cell_b (c_A2_3) (below_alloc _ o)
    have bc_A2_3 := fun o o1 => cell_b (ac_A2_3 o) (below_alloc _ o1)
    have ac_R0_3 := fun o => cell_b (c_R0_3) (below_alloc _ o)
    have bc_R0_3 := fun o o1 => cell_b (ac_R0_3 o) (below_alloc _ o1)
    have ac_R1_3 := fun o => cell_b (c_R1_3) (below_alloc _ o)
    have bc_R1_3 := fun o o1 => cell_b (ac_R1_3 o) (below_alloc _ o1)
    have ac_R2_3 := fun o => cell_b (c_R2_3) (below_alloc _ o)
    have bc_R2_3 := fun o o1 => cell_b (ac_R2_3 o) (below_alloc _ o1)
    have ac_O0_3 := fun o => cell_b (c_O0_3) (below_alloc _ o)
    have bc_O0_3 := fun o o1 => cell_b (ac_O0_3 o) (below_alloc _ o1)
    have ac_O1_3 := fun o => cell_b (c_O1_3) (below_alloc _ o)
    have bc_O1_3 := fun o o1 => cell_b (ac_O1_3 o) (below_alloc _ o1)
    have ac_O2_3 := fun o => cell_b (c_O2_3) (below_alloc _ o)
    have bc_O2_3 := fun o o1 => cell_b (ac_O2_3 o) (below_alloc _ o1)
    have af_R0_3 := fun o => frz_b (cell_lt (c_R0_3)) (f_R0_3) (below_alloc _ o)
    have bf_R0_3 := fun o o1 => frz_b (cell_lt (ac_R0_3 o)) (af_R0_3 o) (below_alloc _ o1)
    have af_R1_3 := fun o => frz_b (cell_lt (c_R1_3)) (f_R1_3) (below_alloc _ o)
    have bf_R1_3 := fun o o1 => frz_b (cell_lt (ac_R1_3 o)) (af_R1_3 o) (below_alloc _ o1)
    have af_R2_3 := fun o => frz_b (cell_lt (c_R2_3)) (f_R2_3) (below_alloc _ o)
    have bf_R2_3 := fun o o1 => frz_b (cell_lt (ac_R2_3 o)) (af_R2_3 o) (below_alloc _ o1)
    have af_O0_3 := fun o => frz_b (cell_lt (c_O0_3)) (f_O0_3) (below_alloc _ o)
    have bf_O0_3 := fun o o1 => frz_b (cell_lt (ac_O0_3 o)) (af_O0_3 o) (below_alloc _ o1)
    have af_O1_3 := fun o => frz_b (cell_lt (c_O1_3)) (f_O1_3) (below_alloc _ o)
    have bf_O1_3 := fun o o1 => frz_b (cell_lt (ac_O1_3 o)) (af_O1_3 o) (below_alloc _ o1)
    have af_O2_3 := fun o => frz_b (cell_lt (c_O2_3)) (f_O2_3) (below_alloc _ o)
    have bf_O2_3 := fun o o1 => frz_b (cell_lt (ac_O2_3 o)) (af_O2_3 o) (below_alloc _ o1)
    clear hg c_A0_2 c_A1_2 c_A2_2 c_R0_2 c_R1_2 c_R2_2 c_O0_2 c_O1_2 c_O2_2 f_R0_2 f_R1_2 f_R2_2 f_O0_2 f_O1_2 f_O2_2 o_e_2 hr1 R_2 T_2 ac_A0_2 bc_A0_2 ac_A1_2 bc_A1_2 ac_A2_2 bc_A2_2 ac_R0_2 bc_R0_2 ac_R1_2 bc_R1_2 ac_R2_2 bc_R2_2 ac_O0_2 bc_O0_2 ac_O1_2 bc_O1_2 ac_O2_2 bc_O2_2 af_R0_2 bf_R0_2 af_R1_2 bf_R1_2 af_R2_2 bf_R2_2 af_O0_2 bf_O0_2 af_O1_2 bf_O1_2 af_O2_2 bf_O2_2 hy
    go_wp2_with fail
    refine bodyPost_ret (v := .agg #[.int .i64 p, .int .i64 y, .slice a0 xs.length cap0]) (by simp [results, Tryd.results28, go_sem, c_R0_3, c_R1_3, c_R2_3]) rfl ⟨p, y, xs, a0, cap0, rfl, by omega, rdxb_mono (own_rdxb (own_set (p := ⟨w.heap.size + 1, 2, none⟩) (own_set (p := ⟨w.heap.size + 1, 1, none⟩) (own_set (p := ⟨w.heap.size + 1, 0, none⟩) (own_set (p := ⟨w1.heap.size, 1, none⟩) (o_e_3.out) (fun g h => by have h1 := lo_e.out g h; have h2 := hi_e.out g h; show g ≠ w1.heap.size; omega) _) (fun g h => by have h1 := lo_e.out g h; have h2 := hi_e.out g h; show g ≠ w.heap.size + 1; omega) _) (fun g h => by have h1 := lo_e.out g h; have h2 := hi_e.out g h; show g ≠ w.heap.size + 1; omega) _) (fun g h => by have h1 := lo_e.out g h; have h2 := hi_e.out g h; show g ≠ w.heap.size + 1; omega) _)) (by omega), rdr_mono (rdr_set (p := ⟨w.heap.size + 1, 2, none⟩) (rdr_set (p := ⟨w.heap.size + 1, 1, none⟩) (rdr_set (p := ⟨w.heap.size + 1, 0, none⟩) (rdr_set (p := ⟨w1.heap.size, 1, none⟩) (R_3.out) (by show r < w1.heap.size; omega) _) (by show r < w.heap.size + 1; omega) _) (by show r < w.heap.size + 1; omega) _) (by show r < w.heap.size + 1; omega) _) (by omega), (gs_set (p := ⟨w.heap.size + 1, 2, none⟩) (gs_set (p := ⟨w.heap.size + 1, 1, none⟩) (gs_set (p := ⟨w.heap.size + 1, 0, none⟩) (gs_set (p := ⟨w1.heap.size, 1, none⟩) (T_3.out) (.inr (by show w.heap.size ≤ w1.heap.size; omega)) _) (.inr (by show w.heap.size ≤ w.heap.size + 1; omega)) _) (.inr (by show w.heap.size ≤ w.heap.size + 1; omega)) _) (.inr (by show w.heap.size ≤ w.heap.size + 1; omega)) _)⟩
  by_cases hx2 : x = 2
  · subst hx2
    go_wp2_with fail
    go_region_law (first | (refine step_append_rdx (w := (w4).alloc (.cells #[.int .i64 u, .int .i64 z] 42)) (by rfl) _ _ 27 rfl (w.heap.size + 2) 42 2 16 (.agg #[.int .i64 0, .int .i64 0]) j0 Tryd.underlying27 hj hy0 hy1 hy2 rfl (by decide) (.slice a0 xs.length cap0) ((xs).length) (prs (xs)) rfl (own_below (o_e_4.out) (below_alloc _ _)) _ _ _ (prs ([(u, z)])) rfl (rdx_lit1 _ _ _ _ (w4.heap.size) (by first | rfl | (simp; done))) prs_one (by first | (unfold maxLen; omega) | (unfold maxLen; simp; omega)) (by first | omega | (simp; omega)) (by first | omega | (simp; done) | (simp; omega)) ?_; intro v5 w5 hown hgr hloc; have ho : w5.ownsRow (w.heap.size + 2) 42 2 v5 ((xs).length + 1) (prs (xs ++ [(u, z)])) := (by rw [prs_append]; exact hown); obtain ⟨a1, cap1, hv⟩ := own_shape ho; subst hv; have iv_f : Hid (∀ g, (Value.slice a1 ((xs).length + 1) cap1).ownBlock = some g → (w.heap.size + 2 ≤ g ∧ g < w1.heap.size) ∨ (w4.heap.size + 1 ≤ g ∧ g < w5.heap.size)) := Lib.hid (fun g h => by have h9 := hgr.size; have h7 := own_hi ho g h; rcases hloc with h8 | h8 <;> rw [h8] at h <;> first | (have h1 := lo_e.out g h; have h2 := hi_e.out g h; (try simp at h9); omega) | (injection h with h; (try simp at h9); (try simp at h); omega)); have c_A0_5 := cell_gr (cell_b (c_A0_4) (below_alloc _ _)) hgr (fun g h => by have h1 := lo_e.out g h; have h2 := hi_e.out g h; show w.heap.size ≠ g; omega); have c_A1_5 := cell_gr (cell_b (c_A1_4) (below_alloc _ _)) hgr (fun g h => by have h1 := lo_e.out g h; have h2 := hi_e.out g h; show w.heap.size ≠ g; omega); have c_A2_5 := cell_gr (cell_b (c_A2_4) (below_alloc _ _)) hgr (fun g h => by have h1 := lo_e.out g h; have h2 := hi_e.out g h; show w.heap.size ≠ g; omega); have c_R0_5 := cell_gr (cell_b (c_R0_4) (below_alloc _ _)) hgr (fun g h => by have h1 := lo_e.out g h; have h2 := hi_e.out g h; show w.heap.size + 1 ≠ g; omega); have c_R1_5 := cell_gr (cell_b (c_R1_4) (below_alloc _ _)) hgr (fun g h => by have h1 := lo_e.out g h; have h2 := hi_e.out g h; show w.heap.size + 1 ≠ g; omega); have c_R2_5 := cell_gr (cell_b (c_R2_4) (below_alloc _ _)) hgr (fun g h => by have h1 := lo_e.out g h; have h2 := hi_e.out g h; show w.heap.size + 1 ≠ g; omega); have c_O0_5 := cell_gr (cell_b (c_O0_4) (below_alloc _ _)) hgr (fun g h => by have h1 := lo_e.out g h; have h2 := hi_e.out g h; show w1.heap.size ≠ g; omega); have c_O1_5 := cell_gr (cell_b (c_O1_4) (below_alloc _ _)) hgr (fun g h => by have h1 := lo_e.out g h; have h2 := hi_e.out g h; show w1.heap.size ≠ g; omega); have c_O2_5 := cell_gr (cell_b (c_O2_4) (below_alloc _ _)) hgr (fun g h => by have h1 := lo_e.out g h; have h2 := hi_e.out g h; show w1.heap.size ≠ g; omega); have f_R0_5 := (frz_gr (p := ⟨w.heap.size + 1, 0, none⟩) (cell_lt (cell_b (c_R0_4) (below_alloc _ _))) hgr (fun g h => by have h1 := lo_e.out g h; have h2 := hi_e.out g h; show w.heap.size + 1 ≠ g; omega)).trans (frz_b (cell_lt (c_R0_4)) (f_R0_4) (below_alloc _ _)); have f_R1_5 := (frz_gr (p := ⟨w.heap.size + 1, 1, none⟩) (cell_lt (cell_b (c_R1_4) (below_alloc _ _))) hgr (fun g h => by have h1 := lo_e.out g h; have h2 := hi_e.out g h; show w.heap.size + 1 ≠ g; omega)).trans (frz_b (cell_lt (c_R1_4)) (f_R1_4) (below_alloc _ _)); have f_R2_5 := (frz_gr (p := ⟨w.heap.size + 1, 2, none⟩) (cell_lt (cell_b (c_R2_4) (below_alloc _ _))) hgr (fun g h => by have h1 := lo_e.out g h; have h2 := hi_e.out g h; show w.heap.size + 1 ≠ g; omega)).trans (frz_b (cell_lt (c_R2_4)) (f_R2_4) (below_alloc _ _)); have f_O0_5 := (frz_gr (p := ⟨w1.heap.size, 0, none⟩) (cell_lt (cell_b (c_O0_4) (below_alloc _ _))) hgr (fun g h => by have h1 := lo_e.out g h; have h2 := hi_e.out g h; show w1.heap.size ≠ g; omega)).trans (frz_b (cell_lt (c_O0_4)) (f_O0_4) (below_alloc _ _)); have f_O1_5 := (frz_gr (p := ⟨w1.heap.size, 1, none⟩) (cell_lt (cell_b (c_O1_4) (below_alloc _ _))) hgr (fun g h => by have h1 := lo_e.out g h; have h2 := hi_e.out g h; show w1.heap.size ≠ g; omega)).trans (frz_b (cell_lt (c_O1_4)) (f_O1_4) (below_alloc _ _)); have f_O2_5 := (frz_gr (p := ⟨w1.heap.size, 2, none⟩) (cell_lt (cell_b (c_O2_4) (below_alloc _ _))) hgr (fun g h => by have h1 := lo_e.out g h; have h2 := hi_e.out g h; show w1.heap.size ≠ g; omega)).trans (frz_b (cell_lt (c_O2_4)) (f_O2_4) (below_alloc _ _)); have R_5 := Lib.hid (rdr_gr (rdr_b (R_4.out) (below_alloc _ _)) hgr (fun g h => by have h1 := lo_e.out g h; have h2 := hi_e.out g h; omega)); have T_5 := Lib.hid (gs_row (gs_trans (T_4.out) (gs_b (below_alloc _ _))) hgr (fun g h => by have h1 := lo_e.out g h; have h2 := hi_e.out g h; omega)); have z_5 : w4.heap.size + 1 ≤ w5.heap.size := (by have := hgr.size; (try simp at this); omega); have o_f_5 := Lib.hid ho; have lo_f := Lib.hid (own_lo o_f_5.out); have hi_f := Lib.hid (own_hi o_f_5.out); have ac_A0_5 := fun o => cell_b (c_A0_5) (below_alloc _ o); have bc_A0_5 := fun o o1 => cell_b (ac_A0_5 o) (below_alloc _ o1); have ac_A1_5 := fun o => cell_b (c_A1_5) (below_alloc _ o); have bc_A1_5 := fun o o1 => cell_b (ac_A1_5 o) (below_alloc _ o1); have ac_A2_5 := fun o => cell_b (c_A2_5) (below_alloc _ o); have bc_A2_5 := fun o o1 => cell_b (ac_A2_5 o) (below_alloc _ o1); have ac_R0_5 := fun o => cell_b (c_R0_5) (below_alloc _ o); have bc_R0_5 := fun o o1 => cell_b (ac_R0_5 o) (below_alloc _ o1); have ac_R1_5 := fun o => cell_b (c_R1_5) (below_alloc _ o); have bc_R1_5 := fun o o1 => cell_b (ac_R1_5 o) (below_alloc _ o1); have ac_R2_5 := fun o => cell_b (c_R2_5) (below_alloc _ o); have bc_R2_5 := fun o o1 => cell_b (ac_R2_5 o) (below_alloc _ o1); have ac_O0_5 := fun o => cell_b (c_O0_5) (below_alloc _ o); have bc_O0_5 := fun o o1 => cell_b (ac_O0_5 o) (below_alloc _ o1); have ac_O1_5 := fun o => cell_b (c_O1_5) (below_alloc _ o); have bc_O1_5 := fun o o1 => cell_b (ac_O1_5 o) (below_alloc _ o1); have ac_O2_5 := fun o => cell_b (c_O2_5) (below_alloc _ o); have bc_O2_5 := fun o o1 => cell_b (ac_O2_5 o) (below_alloc _ o1); have af_R0_5 := fun o => frz_b (cell_lt (c_R0_5)) (f_R0_5) (below_alloc _ o); have bf_R0_5 := fun o o1 => frz_b (cell_lt (ac_R0_5 o)) (af_R0_5 o) (below_alloc _ o1); have af_R1_5 := fun o => frz_b (cell_lt (c_R1_5)) (f_R1_5) (below_alloc _ o); have bf_R1_5 := fun o o1 => frz_b (cell_lt (ac_R1_5 o)) (af_R1_5 o) (below_alloc _ o1); have af_R2_5 := fun o => frz_b (cell_lt (c_R2_5)) (f_R2_5) (below_alloc _ o); have bf_R2_5 := fun o o1 => frz_b (cell_lt (ac_R2_5 o)) (af_R2_5 o) (below_alloc _ o1); have af_O0_5 := fun o => frz_b (cell_lt (c_O0_5)) (f_O0_5) (below_alloc _ o); have bf_O0_5 := fun o o1 => frz_b (cell_lt (ac_O0_5 o)) (af_O0_5 o) (below_alloc _ o1); have af_O1_5 := fun o => frz_b (cell_lt (c_O1_5)) (f_O1_5) (below_alloc _ o); have bf_O1_5 := fun o o1 => frz_b (cell_lt (ac_O1_5 o)) (af_O1_5 o) (below_alloc _ o1); have af_O2_5 := fun o => frz_b (cell_lt (c_O2_5)) (f_O2_5) (below_alloc _ o); have bf_O2_5 := fun o o1 => frz_b (cell_lt (ac_O2_5 o)) (af_O2_5 o) (below_alloc _ o1); clear hgr c_A0_4 c_A1_4 c_A2_4 c_R0_4 c_R1_4 c_R2_4 c_O0_4 c_O1_4 c_O2_4 f_R0_4 f_R1_4 f_R2_4 f_O0_4 f_O1_4 f_O2_4 R_4 T_4 ac_A0_4 bc_A0_4 ac_A1_4 bc_A1_4 ac_A2_4 bc_A2_4 ac_R0_4 bc_R0_4 ac_R1_4 bc_R1_4 ac_R2_4 bc_R2_4 ac_O0_4 bc_O0_4 ac_O1_4 bc_O1_4 ac_O2_4 bc_O2_4 af_R0_4 bf_R0_4 af_R1_4 bf_R1_4 af_R2_4 bf_R2_4 af_O0_4 bf_O0_4 af_O1_4 bf_O1_4 af_O2_4 bf_O2_4 hown ho hloc o_e_4 lo_e hi_e) | (go_simp; go_at_call 27; (with_reducible refine (S_pick _ r _ _ (R_3.out) (by omega) (by omega)).mono ?_); rintro e w4 ⟨z, rfl, hz0, hz1, hr1, hg⟩; have c_A0_4 := cell_gs (c_A0_3) hg (by show w.heap.size ≠ r; omega); have c_A1_4 := cell_gs (c_A1_3) hg (by show w.heap.size ≠ r; omega); have c_A2_4 := cell_gs (c_A2_3) hg (by show w.heap.size ≠ r; omega); have c_R0_4 := cell_gs (c_R0_3) hg (by show w.heap.size + 1 ≠ r; omega); have c_R1_4 := cell_gs (c_R1_3) hg (by show w.heap.size + 1 ≠ r; omega); have c_R2_4 := cell_gs (c_R2_3) hg (by show w.heap.size + 1 ≠ r; omega); have c_O0_4 := cell_gs (c_O0_3) hg (by show w1.heap.size ≠ r; omega); have c_O1_4 := cell_gs (c_O1_3) hg (by show w1.heap.size ≠ r; omega); have c_O2_4 := cell_gs (c_O2_3) hg (by show w1.heap.size ≠ r; omega); have f_R0_4 := frz_gs (p := ⟨w.heap.size + 1, 0, none⟩) (cell_lt (c_R0_3)) (f_R0_3) hg (by show w.heap.size + 1 ≠ r; omega); have f_R1_4 := frz_gs (p := ⟨w.heap.size + 1, 1, none⟩) (cell_lt (c_R1_3)) (f_R1_3) hg (by show w.heap.size + 1 ≠ r; omega); have f_R2_4 := frz_gs (p := ⟨w.heap.size + 1, 2, none⟩) (cell_lt (c_R2_3)) (f_R2_3) hg (by show w.heap.size + 1 ≠ r; omega); have f_O0_4 := frz_gs (p := ⟨w1.heap.size, 0, none⟩) (cell_lt (c_O0_3)) (f_O0_3) hg (by show w1.heap.size ≠ r; omega); have f_O1_4 := frz_gs (p := ⟨w1.heap.size, 1, none⟩) (cell_lt (c_O1_3)) (f_O1_3) hg (by show w1.heap.size ≠ r; omega); have f_O2_4 := frz_gs (p := ⟨w1.heap.size, 2, none⟩) (cell_lt (c_O2_3)) (f_O2_3) hg (by show w1.heap.size ≠ r; omega); have o_e_4 := Lib.hid (own_gr (o_e_3.out) hg (fun g g' h h' => by injection h with h; have h3 := lo_e.out g' h'; omega)); have R_4 := Lib.hid hr1; have T_4 := Lib.hid (gs_trans (T_3.out) hg); have z_4 : w3.heap.size ≤ w4.heap.size := (by have := hg.size; (try simp at this); omega); have ac_A0_4 := fun o => cell_b (c_A0_4) (below_alloc _ o); have bc_A0_4 := fun o o1 => cell_b (ac_A0_4 o) (below_alloc _ o1); have ac_A1_4 := fun o => cell_b (c_A1_4) (below_alloc _ o); have bc_A1_4 := fun o o1 => cell_b (ac_A1_4 o) (below_alloc _ o1); have ac_A2_4 := fun o => cell_b (c_A2_4) (below_alloc _ o); have bc_A2_4 := fun o o1 => cell_b (ac_A2_4 o) (below_alloc _ o1); have ac_R0_4 := fun o => cell_b (c_R0_4) (below_alloc _ o); have bc_R0_4 := fun o o1 => cell_b (ac_R0_4 o) (below_alloc _ o1); have ac_R1_4 := fun o => cell_b (c_R1_4) (below_alloc _ o); have bc_R1_4 := fun o o1 => cell_b (ac_R1_4 o) (below_alloc _ o1); have ac_R2_4 := fun o => cell_b (c_R2_4) (below_alloc _ o); have bc_R2_4 := fun o o1 => cell_b (ac_R2_4 o) (below_alloc _ o1); have ac_O0_4 := fun o => cell_b (c_O0_4) (below_alloc _ o); have bc_O0_4 := fun o o1 => cell_b (ac_O0_4 o) (below_alloc _ o1); have ac_O1_4 := fun o => cell_b (c_O1_4) (below_alloc _ o); have bc_O1_4 := fun o o1 => cell_b (ac_O1_4 o) (below_alloc _ o1); have ac_O2_4 := fun o => cell_b (c_O2_4) (below_alloc _ o); have bc_O2_4 := fun o o1 => cell_b (ac_O2_4 o) (below_alloc _ o1); have af_R0_4 := fun o => frz_b (cell_lt (c_R0_4)) (f_R0_4) (below_alloc _ o); have bf_R0_4 := fun o o1 => frz_b (cell_lt (ac_R0_4 o)) (af_R0_4 o) (below_alloc _ o1); have af_R1_4 := fun o => frz_b (cell_lt (c_R1_4)) (f_R1_4) (below_alloc _ o); have bf_R1_4 := fun o o1 => frz_b (cell_lt (ac_R1_4 o)) (af_R1_4 o) (below_alloc _ o1); have af_R2_4 := fun o => frz_b (cell_lt (c_R2_4)) (f_R2_4) (below_alloc _ o); have bf_R2_4 := fun o o1 => frz_b (cell_lt (ac_R2_4 o)) (af_R2_4 o) (below_alloc _ o1); have af_O0_4 := fun o => frz_b (cell_lt (c_O0_4)) (f_O0_4) (below_alloc _ o); have bf_O0_4 := fun o o1 => frz_b (cell_lt (ac_O0_4 o)) (af_O0_4 o) (below_alloc _ o1); have af_O1_4 := fun o => frz_b (cell_lt (c_O1_4)) (f_O1_4) (below_alloc _ o); have bf_O1_4 := fun o o1 => frz_b (cell_lt (ac_O1_4 o)) (af_O1_4 o) (below_alloc _ o1); have af_O2_4 := fun o => frz_b (cell_lt (c_O2_4)) (f_O2_4) (below_alloc _ o); have bf_O2_4 := fun o o1 => frz_b (cell_lt (ac_O2_4 o)) (af_O2_4 o) (below_alloc _ o1); clear hg c_A0_3 c_A1_3 c_A2_3 c_R0_3 c_R1_3 c_R2_3 c_O0_3 c_O1_3 c_O2_3 f_R0_3 f_R1_3 f_R2_3 f_O0_3 f_O1_3 f_O2_3 o_e_3 hr1 R_3 T_3 ac_A0_3 bc_A0_3 ac_A1_3 bc_A1_3 ac_A2_3 bc_A2_3 ac_R0_3 bc_R0_3 ac_R1_3 bc_R1_3 ac_R2_3 bc_R2_3 ac_O0_3 bc_O0_3 ac_O1_3 bc_O1_3 ac_O2_3 bc_O2_3 af_R0_3 bf_R0_3 af_R1_3 bf_R1_3 af_R2_3 bf_R2_3 af_O0_3 bf_O0_3 af_O1_3 bf_O1_3 af_O2_3 bf_O2_3 hz1) | (go_simp; go_at_call 27; (with_reducible refine (S_pick _ r _ _ (rdr_b (R_2.out) (drew_below _)) (by omega) (by omega)).mono ?_); rintro e w3 ⟨u, rfl, hu0, hu1, hr1, hg⟩; have c_A0_3 := cell_gs (cell_b (c_A0_2) (drew_below _)) hg (by show w.heap.size ≠ r; omega); have c_A1_3 := cell_gs (cell_b (c_A1_2) (drew_below _)) hg (by show w.heap.size ≠ r; omega); have c_A2_3 := cell_gs (cell_b (c_A2_2) (drew_below _)) hg (by show w.heap.size ≠ r; omega); have c_R0_3 := cell_gs (cell_b (c_R0_2) (drew_below _)) hg (by show w.heap.size + 1 ≠ r; omega); have c_R1_3 := cell_gs (cell_b (c_R1_2) (drew_below _)) hg (by show w.heap.size + 1 ≠ r; omega); have c_R2_3 := cell_gs (cell_b (c_R2_2) (drew_below _)) hg (by show w.heap.size + 1 ≠ r; omega); have c_O0_3 := cell_gs (cell_b (c_O0_2) (drew_below _)) hg (by show w1.heap.size ≠ r; omega); have c_O1_3 := cell_gs (cell_b (c_O1_2) (drew_below _)) hg (by show w1.heap.size ≠ r; omega); have c_O2_3 := cell_gs (cell_b (c_O2_2) (drew_below _)) hg (by show w1.heap.size ≠ r; omega); have f_R0_3 := frz_gs (p := ⟨w.heap.size + 1, 0, none⟩) (cell_lt (cell_b (c_R0_2) (drew_below _))) (frz_b (cell_lt (c_R0_2)) (f_R0_2) (drew_below _)) hg (by show w.heap.size + 1 ≠ r; omega); have f_R1_3 := frz_gs (p := ⟨w.heap.size + 1, 1, none⟩) (cell_lt (cell_b (c_R1_2) (drew_below _))) (frz_b (cell_lt (c_R1_2)) (f_R1_2) (drew_below _)) hg (by show w.heap.size + 1 ≠ r; omega); have f_R2_3 := frz_gs (p := ⟨w.heap.size + 1, 2, none⟩) (cell_lt (cell_b (c_R2_2) (drew_below _))) (frz_b (cell_lt (c_R2_2)) (f_R2_2) (drew_below _)) hg (by show w.heap.size + 1 ≠ r; omega); have f_O0_3 := frz_gs (p := ⟨w1.heap.size, 0, none⟩) (cell_lt (cell_b (c_O0_2) (drew_below _))) (frz_b (cell_lt (c_O0_2)) (f_O0_2) (drew_below _)) hg (by show w1.heap.size ≠ r; omega); have f_O1_3 := frz_gs (p := ⟨w1.heap.size, 1, none⟩) (cell_lt (cell_b (c_O1_2) (drew_below _))) (frz_b (cell_lt (c_O1_2)) (f_O1_2) (drew_below _)) hg (by show w1.heap.size ≠ r; omega); have f_O2_3 := frz_gs (p := ⟨w1.heap.size, 2, none⟩) (cell_lt (cell_b (c_O2_2) (drew_below _))) (frz_b (cell_lt (c_O2_2)) (f_O2_2) (drew_below _)) hg (by show w1.heap.size ≠ r; omega); have o_e_3 := Lib.hid (own_gr (own_below (o_e_2.out) (drew_below _)) hg (fun g g' h h' => by injection h with h; have h3 := lo_e.out g' h'; omega)); have R_3 := Lib.hid hr1; have T_3 := Lib.hid (gs_trans (gs_trans (T_2.out) (gs_b (drew_below _))) hg); have z_3 : w2.heap.size ≤ w3.heap.size := (by have := hg.size; (try simp at this); omega); have ac_A0_3 := fun o => cell_b (c_A0_3) (below_alloc _ o); have bc_A0_3 := fun o o1 => cell_b (ac_A0_3 o) (below_alloc _ o1); have ac_A1_3 := fun o => cell_b (c_A1_3) (below_alloc _ o); have bc_A1_3 := fun o o1 => cell_b (ac_A1_3 o) (below_alloc _ o1); have ac_A2_3 := fun o => cell_b (c_A2_3) (below_alloc _ o); have bc_A2_3 := fun o o1 => cell_b (ac_A2_3 o) (below_alloc _ o1); have ac_R0_3 := fun o => cell_b (c_R0_3) (below_alloc _ o); have bc_R0_3 := fun o o1 => cell_b (ac_R0_3 o) (below_alloc _ o1); have ac_R1_3 := fun o => cell_b (c_R1_3) (below_alloc _ o); have bc_R1_3 := fun o o1 => cell_b (ac_R1_3 o) (below_alloc _ o1); have ac_R2_3 := fun o => cell_b (c_R2_3) (below_alloc _ o); have bc_R2_3 := fun o o1 => cell_b (ac_R2_3 o) (below_alloc _ o1); have ac_O0_3 := fun o => cell_b (c_O0_3) (below_alloc _ o); have bc_O0_3 := fun o o1 => cell_b (ac_O0_3 o) (below_alloc _ o1); have ac_O1_3 := fun o => cell_b (c_O1_3) (below_alloc _ o); have bc_O1_3 := fun o o1 => cell_b (ac_O1_3 o) (below_alloc _ o1); have ac_O2_3 := fun o => cell_b (c_O2_3) (below_alloc _ o); have bc_O2_3 := fun o o1 => cell_b (ac_O2_3 o) (below_alloc _ o1); have af_R0_3 := fun o => frz_b (cell_lt (c_R0_3)) (f_R0_3) (below_alloc _ o); have bf_R0_3 := fun o o1 => frz_b (cell_lt (ac_R0_3 o)) (af_R0_3 o) (below_alloc _ o1); have af_R1_3 := fun o => frz_b (cell_lt (c_R1_3)) (f_R1_3) (below_alloc _ o); have bf_R1_3 := fun o o1 => frz_b (cell_lt (ac_R1_3 o)) (af_R1_3 o) (below_alloc _ o1); have af_R2_3 := fun o => frz_b (cell_lt (c_R2_3)) (f_R2_3) (below_alloc _ o); have bf_R2_3 := fun o o1 => frz_b (cell_lt (ac_R2_3 o)) (af_R2_3 o) (below_alloc _ o1); have af_O0_3 := fun o => frz_b (cell_lt (c_O0_3)) (f_O0_3) (below_alloc _ o); have bf_O0_3 := fun o o1 => frz_b (cell_lt (ac_O0_3 o)) (af_O0_3 o) (below_alloc _ o1); have af_O1_3 := fun o => frz_b (cell_lt (c_O1_3)) (f_O1_3) (below_alloc _ o); have bf_O1_3 := fun o o1 => frz_b (cell_lt (ac_O1_3 o)) (af_O1_3 o) (below_alloc _ o1); have af_O2_3 := fun o => frz_b (cell_lt (c_O2_3)) (f_O2_3) (below_alloc _ o); have bf_O2_3 := fun o o1 => frz_b (cell_lt (ac_O2_3 o)) (af_O2_3 o) (below_alloc _ o1); clear hg c_A0_2 c_A1_2 c_A2_2 c_R0_2 c_R1_2 c_R2_2 c_O0_2 c_O1_2 c_O2_2 f_R0_2 f_R1_2 f_R2_2 f_O0_2 f_O1_2 f_O2_2 o_e_2 hr1 R_2 T_2 ac_A0_2 bc_A0_2 ac_A1_2 bc_A1_2 ac_A2_2 bc_A2_2 ac_R0_2 bc_R0_2 ac_R1_2 bc_R1_2 ac_R2_2 bc_R2_2 ac_O0_2 bc_O0_2 ac_O1_2 bc_O1_2 ac_O2_2 bc_O2_2 af_R0_2 bf_R0_2 af_R1_2 bf_R1_2 af_R2_2 bf_R2_2 af_O0_2 bf_O0_2 af_O1_2 bf_O1_2 af_O2_2 bf_O2_2 hu1))
    all_goals
      go_wp2_with fail
      have e9 : (xs ++ [(u, z)]).length = xs.length + 1 := by simp
      have HF : Hid (RdWB (((((w5).setCell ⟨w1.heap.size, 2, none⟩ (.slice a1 (xs.length + 1) cap1)).setCell ⟨w.heap.size + 1, 0, none⟩ (.int .i64 p)).setCell ⟨w.heap.size + 1, 1, none⟩ (.int .i64 q)).setCell ⟨w.heap.size + 1, 2, none⟩ (.slice a1 (xs.length + 1) cap1)) w.heap.size (.slice a1 (xs ++ [(u, z)]).length cap1) (xs ++ [(u, z)])) := Lib.hid (by rw [e9]; exact rdxb_mono (own_rdxb (owp_eq (own_set (p := ⟨w.heap.size + 1, 2, none⟩) (own_set (p := ⟨w.heap.size + 1, 1, none⟩) (own_set (p := ⟨w.heap.size + 1, 0, none⟩) (own_set (p := ⟨w1.heap.size, 2, none⟩) (o_f_5.out) (fun g h => by have h1 := lo_f.out g h; have h2 := hi_f.out g h; have h5 := iv_f.out g h; show g ≠ w1.heap.size; omega) _) (fun g h => by have h1 := lo_f.out g h; have h2 := hi_f.out g h; have h5 := iv_f.out g h; show g ≠ w.heap.size + 1; omega) _) (fun g h => by have h1 := lo_f.out g h; have h2 := hi_f.out g h; have h5 := iv_f.out g h; show g ≠ w.heap.size + 1; omega) _) (fun g h => by have h1 := lo_f.out g h; have h2 := hi_f.out g h; have h5 := iv_f.out g h; show g ≠ w.heap.size + 1; omega) _) rfl e9.symm)) (by omega))
      refine bodyPost_ret (v := .agg #[.int .i64 p, .int .i64 q, .slice a1 (xs.length + 1) cap1]) (by simp [results, Tryd.results28, go_sem, c_R0_5, c_R1_5, c_R2_5]) rfl ⟨p, q, xs ++ [(u, z)], a1, cap1, by rw [e9], by omega, HF.out, rdr_mono (rdr_set (p := ⟨w.heap.size + 1, 2, none⟩) (rdr_set (p := ⟨w.heap.size + 1, 1, none⟩) (rdr_set (p := ⟨w.heap.size + 1, 0, none⟩) (rdr_set (p := ⟨w1.heap.size, 2, none⟩) (R_5.out) (by show r < w1.heap.size; omega) _) (by show r < w.heap.size + 1; omega) _) (by show r < w.heap.size + 1; omega) _) (by show r < w.heap.size + 1; omega) _) (by omega), (gs_set (p := ⟨w.heap.size + 1, 2, none⟩) (gs_set (p := ⟨w.heap.size + 1, 1, none⟩) (gs_set (p := ⟨w.heap.size + 1, 0, none⟩) (gs_set (p := ⟨w1.heap.size, 2, none⟩) (T_5.out) (.inr (by show w.heap.size ≤ w1.heap.size; omega)) _) (.inr (by show w.heap.size ≤ w.heap.size + 1; omega)) _) (.inr (by show w.heap.size ≤ w.heap.size + 1; omega)) _) (.inr (by show w.heap.size ≤ w.heap.size + 1; omega)) _)⟩
  have n0 : (x == 0) = false := by simpa using hx0
  have n1 : (x == 1) = false := by simpa using hx1
  have n2 : (x == 2) = false := by simpa using hx2
  go_wp2_with fail
  refine bodyPost_ret (v := .agg #[.int .i64 p, .int .i64 q, .slice a0 xs.length cap0]) (by simp [results, Tryd.results28, go_sem, c_R0_2, c_R1_2, c_R2_2]) rfl ⟨p, q, xs, a0, cap0, rfl, by omega, rdxb_mono (own_rdxb (own_set (p := ⟨w.heap.size + 1, 2, none⟩) (own_set (p := ⟨w.heap.size + 1, 1, none⟩) (own_set (p := ⟨w.heap.size + 1, 0, none⟩) (o_e_2.out) (fun g h => by have h1 := lo_e.out g h; have h2 := hi_e.out g h; show g ≠ w.heap.size + 1; omega) _) (fun g h => by have h1 := lo_e.out g h; have h2 := hi_e.out g h; show g ≠ w.heap.size + 1; omega) _) (fun g h => by have h1 := lo_e.out g h; have h2 := hi_e.out g h; show g ≠ w.heap.size + 1; omega) _)) (by omega), rdr_mono (rdr_set (p := ⟨w.heap.size + 1, 2, none⟩) (rdr_set (p := ⟨w.heap.size + 1, 1, none⟩) (rdr_set (p := ⟨w.heap.size + 1, 0, none⟩) (R_2.out) (by show r < w.heap.size + 1; omega) _) (by show r < w.heap.size + 1; omega) _) (by show r < w.heap.size + 1; omega) _) (by omega), (gs_set (p := ⟨w.heap.size + 1, 2, none⟩) (gs_set (p := ⟨w.heap.size + 1, 1, none⟩) (gs_set (p := ⟨w.heap.size + 1, 0, none⟩) (T_2.out) (.inr (by show w.heap.size ≤ w.heap.size + 1; omega)) _) (.inr (by show w.heap.size ≤ w.heap.size + 1; omega)) _) (.inr (by show w.heap.size ≤ w.heap.size + 1; omega)) _)⟩
end Go.Proofs.YtcbdpcalmafdiaaDoor
