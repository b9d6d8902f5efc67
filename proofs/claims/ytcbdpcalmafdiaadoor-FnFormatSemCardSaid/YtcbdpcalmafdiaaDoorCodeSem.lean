/- What l1Case, DrawCancelWait and the like hand back. -/
import Derived.Test.YtcbdpcalmafdiaaDoorWrongSem
import Derived.Test.YtcbdpcalmafdiaaDoorGuard
import Derived.Deep.RegionHeld3
import Derived.Deep.RegionLaw
import Derived.Deep.DrawnRows
namespace Go.Proofs.YtcbdpcalmafdiaaDoor
open Go.RowKit
attribute [local go_sem ↓] Go.wp_at_zero Go.wp_at_succ

theorem rdwb_some {w : World} {B : Nat} {a : Option Addr} {n cap : Nat} {xs : List (Int × Int)} (h : RdXB w 2 B (.slice a n cap) n (prs xs)) (h0 : 0 < n) : ∃ g off, a = some ⟨g, off, none⟩ := by
  obtain ⟨⟨a', cap', hv, hc, hn, hl, h5⟩, h2⟩ := h
  simp only [Value.slice.injEq] at hv
  obtain ⟨rfl, _, rfl⟩ := hv
  rcases h5 with h5 | ⟨g, o, rfl, _⟩
  · omega
  · exact ⟨g, o, rfl⟩
theorem rdwb_at {w : World} {B g off : Nat} {n cap : Nat} {xs : List (Int × Int)} (h : RdXB w 2 B (.slice (some ⟨g, off, none⟩) n cap) n (prs xs)) (k : Nat) (hk : k < xs.length) : w.cell? ⟨g, off + k * 2, none⟩ = some (.int .i64 xs[k].1) ∧ w.cell? ⟨g, off + k * 2 + 1, none⟩ = some (.int .i64 xs[k].2) := by
  obtain ⟨⟨a', cap', hv, hc, hn, hl, h5⟩, h2⟩ := h
  simp only [Value.slice.injEq] at hv
  obtain ⟨rfl, _, rfl⟩ := hv
  rw [prs_len] at hl
  rcases h5 with h5 | ⟨g', o, e, _, hf⟩
  · omega
  · injection e with e; injection e with e1 e2; subst e1; subst e2
    exact ⟨hf _ _ (prs_1 xs k hk), by rw [Nat.add_assoc]; exact hf _ _ (prs_2 xs k hk)⟩
/-- A semaphore and two numbers, drawn from a code. -/
def CaseP (w : World) (e : Ending) (w' : World) : Prop :=
  ∃ (p q : Int) (xs : List (Int × Int)) (t n : Int) (a : Option Addr) (cap : Nat), e = .returned (.tuple #[.agg #[.int .i64 p, .int .i64 q, .slice a xs.length cap], .int .i64 t, .int .i64 n]) ∧ xs.length ≤ 7 ∧ RdWB w' w.heap.size (.slice a xs.length cap) xs ∧ Below w.heap.size w w'
set_option maxHeartbeats 4000000 in
set_option maxRecDepth 100000 in
theorem S_l1Case (w : World) (v : Value) (n : Nat) (hv : RdY w v n) (hn : n ≤ 4294967296) : Calls Tryd.prog 30 #[v] w (CaseP w) := by
  have HV := Lib.hid hv
  obtain ⟨ay, capy, rfl, hcapy, hncy, hry⟩ := hv
  clear hry hncy
  go_enter Tryd.func30, Tryd.ntmps30
  have T_0 : Hid (Below w.heap.size w w) := Lib.hid (Below.refl _ _)
  go_wp2_with fail
  (with_reducible refine (S_l13Open _ _ n (rdy_b HV.out (below_trans (T_0.out) (below_alloc _ _))) hn).mono ?_)
  rintro e w1 ⟨q, hq, rfl, hr1, hb⟩
  (try simp at hq)
  subst hq
  have zr := rdr_lt hr1
  have c_R0_1 := cell_b (p := ⟨w.heap.size, 0, none⟩) (v := .int .i64 0) (by first | (simp; done) | (simp [World.cell?_alloc_past, World.cell?_alloc_at]; done)) hb
  have f_R0_1 := frz_b (p := ⟨w.heap.size, 0, none⟩) (by first | omega | (simp; done) | (simp; omega)) (show _ = false by first | (simp; done) | (simp [World.frozen?_alloc_past, World.frozen?_alloc_at]; done)) hb
  have c_R1_1 := cell_b (p := ⟨w.heap.size, 1, none⟩) (v := .int .i64 0) (by first | (simp; done) | (simp [World.cell?_alloc_past, World.cell?_alloc_at]; done)) hb
  have f_R1_1 := frz_b (p := ⟨w.heap.size, 1, none⟩) (by first | omega | (simp; done) | (simp; omega)) (show _ = false by first | (simp; done) | (simp [World.frozen?_alloc_past, World.frozen?_alloc_at]; done)) hb
  have c_R2_1 := cell_b (p := ⟨w.heap.size, 2, none⟩) (v := .slice none 0 0) (by first | (simp; done) | (simp [World.cell?_alloc_past, World.cell?_alloc_at]; done)) hb
  have f_R2_1 := frz_b (p := ⟨w.heap.size, 2, none⟩) (by first | omega | (simp; done) | (simp; omega)) (show _ = false by first | (simp; done) | (simp [World.frozen?_alloc_past, World.frozen?_alloc_at]; done)) hb
  have R_1 := Lib.hid hr1
  have T_1 := Lib.hid (below_trans (below_trans (T_0.out) (below_alloc _ _)) hb)
  have z_1 : w.heap.size + 1 ≤ w1.heap.size := (by have := hb.size; (try simp at this); omega)
  have ac_R0_1 := fun o => cell_b (c_R0_1) (below_alloc _ o)
  have bc_R0_1 := fun o o1 => cell_b (ac_R0_1 o) (below_alloc _ o1)
  have ac_R1_1 := fun o => cell_b (c_R1_1) (below_alloc _ o)
  have bc_R1_1 := fun o o1 => cell_b (ac_R1_1 o) (below_alloc _ o1)
  have ac_R2_1 := fun o => cell_b (c_R2_1) (below_alloc _ o)
  have bc_R2_1 := fun o o1 => cell_b (ac_R2_1 o) (below_alloc _ o1)
  have af_R0_1 := fun o => frz_b (cell_lt (c_R0_1)) (f_R0_1) (below_alloc _ o)
  have bf_R0_1 := fun o o1 => frz_b (cell_lt (ac_R0_1 o)) (af_R0_1 o) (below_alloc _ o1)
  have af_R1_1 := fun o => frz_b (cell_lt (c_R1_1)) (f_R1_1) (below_alloc _ o)
  have bf_R1_1 := fun o o1 => frz_b (cell_lt (ac_R1_1 o)) (af_R1_1 o) (below_alloc _ o1)
  have af_R2_1 := fun o => frz_b (cell_lt (c_R2_1)) (f_R2_1) (below_alloc _ o)
  have bf_R2_1 := fun o o1 => frz_b (cell_lt (ac_R2_1 o)) (af_R2_1 o) (below_alloc _ o1)
  clear hb hr1 T_0
  go_wp2_with fail
  (with_reducible refine (S_l1Draw _ (w.heap.size + 1) 0 (R_1.out) (by omega)).mono ?_)
  rintro e w2 ⟨p, q, xs, a, cap, rfl, hx, hd, hr1, hg⟩
  have c_R0_2 := cell_gs (c_R0_1) hg (by show w.heap.size ≠ (w.heap.size + 1); omega)
  have c_R1_2 := cell_gs (c_R1_1) hg (by show w.heap.size ≠ (w.heap.size + 1); omega)
  have c_R2_2 := cell_gs (c_R2_1) hg (by show w.heap.size ≠ (w.heap.size + 1); omega)
  have f_R0_2 := frz_gs (p := ⟨w.heap.size, 0, none⟩) (cell_lt (c_R0_1)) (f_R0_1) hg (by show w.heap.size ≠ (w.heap.size + 1); omega)
  have f_R1_2 := frz_gs (p := ⟨w.heap.size, 1, none⟩) (cell_lt (c_R1_1)) (f_R1_1) hg (by show w.heap.size ≠ (w.heap.size + 1); omega)
  have f_R2_2 := frz_gs (p := ⟨w.heap.size, 2, none⟩) (cell_lt (c_R2_1)) (f_R2_1) hg (by show w.heap.size ≠ (w.heap.size + 1); omega)
  have R_2 := Lib.hid hr1
  have T_2 := Lib.hid (gs_below (T_1.out) hg (by first | omega | (simp; done) | (simp; omega)) (by omega))
  have z_2 : w1.heap.size ≤ w2.heap.size := (by have := hg.size; (try simp at this); omega)
  have r_d_2 := Lib.hid (rdxb_mono hd (show w1.heap.size ≤ _ by first | omega | (simp; done) | (simp; omega)))
  have lr_d := Lib.hid (rdxb_lo r_d_2.out)
  have hr_d := Lib.hid (rdxb_hi r_d_2.out)
  have ac_R0_2 := fun o => cell_b (c_R0_2) (below_alloc _ o)
  have bc_R0_2 := fun o o1 => cell_b (ac_R0_2 o) (below_alloc _ o1)
  have ac_R1_2 := fun o => cell_b (c_R1_2) (below_alloc _ o)
  have bc_R1_2 := fun o o1 => cell_b (ac_R1_2 o) (below_alloc _ o1)
  have ac_R2_2 := fun o => cell_b (c_R2_2) (below_alloc _ o)
  have bc_R2_2 := fun o o1 => cell_b (ac_R2_2 o) (below_alloc _ o1)
  have af_R0_2 := fun o => frz_b (cell_lt (c_R0_2)) (f_R0_2) (below_alloc _ o)
  have bf_R0_2 := fun o o1 => frz_b (cell_lt (ac_R0_2 o)) (af_R0_2 o) (below_alloc _ o1)
  have af_R1_2 := fun o => frz_b (cell_lt (c_R1_2)) (f_R1_2) (below_alloc _ o)
  have bf_R1_2 := fun o o1 => frz_b (cell_lt (ac_R1_2 o)) (af_R1_2 o) (below_alloc _ o1)
  have af_R2_2 := fun o => frz_b (cell_lt (c_R2_2)) (f_R2_2) (below_alloc _ o)
  have bf_R2_2 := fun o o1 => frz_b (cell_lt (ac_R2_2 o)) (af_R2_2 o) (below_alloc _ o1)
  clear hg c_R0_1 c_R1_1 c_R2_1 f_R0_1 f_R1_1 f_R2_1 hr1 R_1 T_1 ac_R0_1 bc_R0_1 ac_R1_1 bc_R1_1 ac_R2_1 bc_R2_1 af_R0_1 bf_R0_1 af_R1_1 bf_R1_1 af_R2_1 bf_R2_1 hd
  go_wp2_with fail
  (with_reducible refine (S_l1Wrong _ (w.heap.size + 1) (0 + 20) p q _ xs (R_2.out) (by omega) (rdxb_mono (r_d_2.out) (by omega)) (by omega)).mono ?_)
  rintro e w3 ⟨p1, q1, ys, a1, cap1, rfl, hy, hd, hr1, hg⟩
  have c_R0_3 := cell_gs (c_R0_2) hg (by show w.heap.size ≠ (w.heap.size + 1); omega)
  have c_R1_3 := cell_gs (c_R1_2) hg (by show w.heap.size ≠ (w.heap.size + 1); omega)
  have c_R2_3 := cell_gs (c_R2_2) hg (by show w.heap.size ≠ (w.heap.size + 1); omega)
  have f_R0_3 := frz_gs (p := ⟨w.heap.size, 0, none⟩) (cell_lt (c_R0_2)) (f_R0_2) hg (by show w.heap.size ≠ (w.heap.size + 1); omega)
  have f_R1_3 := frz_gs (p := ⟨w.heap.size, 1, none⟩) (cell_lt (c_R1_2)) (f_R1_2) hg (by show w.heap.size ≠ (w.heap.size + 1); omega)
  have f_R2_3 := frz_gs (p := ⟨w.heap.size, 2, none⟩) (cell_lt (c_R2_2)) (f_R2_2) hg (by show w.heap.size ≠ (w.heap.size + 1); omega)
  have r_d_3 := Lib.hid (rdxb_gs (r_d_2.out) hg (by omega))
  have R_3 := Lib.hid hr1
  have T_3 := Lib.hid (gs_below (T_2.out) hg (by first | omega | (simp; done) | (simp; omega)) (by omega))
  have z_3 : w2.heap.size ≤ w3.heap.size := (by have := hg.size; (try simp at this); omega)
  have r_e_3 := Lib.hid (rdxb_mono hd (show w2.heap.size ≤ _ by first | omega | (simp; done) | (simp; omega)))
  have lr_e := Lib.hid (rdxb_lo r_e_3.out)
  have hr_e := Lib.hid (rdxb_hi r_e_3.out)
  have ac_R0_3 := fun o => cell_b (c_R0_3) (below_alloc _ o)
  have bc_R0_3 := fun o o1 => cell_b (ac_R0_3 o) (below_alloc _ o1)
  have ac_R1_3 := fun o => cell_b (c_R1_3) (below_alloc _ o)
  have bc_R1_3 := fun o o1 => cell_b (ac_R1_3 o) (below_alloc _ o1)
  have ac_R2_3 := fun o => cell_b (c_R2_3) (below_alloc _ o)
  have bc_R2_3 := fun o o1 => cell_b (ac_R2_3 o) (below_alloc _ o1)
  have af_R0_3 := fun o => frz_b (cell_lt (c_R0_3)) (f_R0_3) (below_alloc _ o)
  have bf_R0_3 := fun o o1 => frz_b (cell_lt (ac_R0_3 o)) (af_R0_3 o) (below_alloc _ o1)
  have af_R1_3 := fun o => frz_b (cell_lt (c_R1_3)) (f_R1_3) (below_alloc _ o)
  have bf_R1_3 := fun o o1 => frz_b (cell_lt (ac_R1_3 o)) (af_R1_3 o) (below_alloc _ o1)
  have af_R2_3 := fun o => frz_b (cell_lt (c_R2_3)) (f_R2_3) (below_alloc _ o)
  have bf_R2_3 := fun o o1 => frz_b (cell_lt (ac_R2_3 o)) (af_R2_3 o) (below_alloc _ o1)
  clear hg c_R0_2 c_R1_2 c_R2_2 f_R0_2 f_R1_2 f_R2_2 r_d_2 hr1 R_2 T_2 ac_R0_2 bc_R0_2 ac_R1_2 bc_R1_2 ac_R2_2 bc_R2_2 af_R0_2 bf_R0_2 af_R1_2 bf_R1_2 af_R2_2 bf_R2_2 hd
  clear r_d_3 lr_d hr_d
  go_wp2_with fail
  (with_reducible refine (S_num _ (w.heap.size + 1) _ [0, 1, 2, 3, 5, 6, -1] (0 + 20 + 3) (rdr_b (R_3.out) (below_alloc _ _)) (by omega) (rdb_lit _ #[.int .i64 0, .int .i64 1, .int .i64 2, .int .i64 3, .int .i64 5, .int .i64 6, .int .i64 (-1)] [0, 1, 2, 3, 5, 6, -1] rfl ((w.heap.size + 1) + 1) (w3.heap.size) 7 (by first | rfl | simp) rfl (by first | omega | (simp; omega))) (by decide) (by decide)).mono ?_)
  rintro e w4 ⟨t, rfl, ht, hr1, hg⟩
  have c_R0_4 := cell_gs (cell_b (c_R0_3) (below_alloc _ _)) hg (by show w.heap.size ≠ (w.heap.size + 1); omega)
  have c_R1_4 := cell_gs (cell_b (c_R1_3) (below_alloc _ _)) hg (by show w.heap.size ≠ (w.heap.size + 1); omega)
  have c_R2_4 := cell_gs (cell_b (c_R2_3) (below_alloc _ _)) hg (by show w.heap.size ≠ (w.heap.size + 1); omega)
  have f_R0_4 := frz_gs (p := ⟨w.heap.size, 0, none⟩) (cell_lt (cell_b (c_R0_3) (below_alloc _ _))) (frz_b (cell_lt (c_R0_3)) (f_R0_3) (below_alloc _ _)) hg (by show w.heap.size ≠ (w.heap.size + 1); omega)
  have f_R1_4 := frz_gs (p := ⟨w.heap.size, 1, none⟩) (cell_lt (cell_b (c_R1_3) (below_alloc _ _))) (frz_b (cell_lt (c_R1_3)) (f_R1_3) (below_alloc _ _)) hg (by show w.heap.size ≠ (w.heap.size + 1); omega)
  have f_R2_4 := frz_gs (p := ⟨w.heap.size, 2, none⟩) (cell_lt (cell_b (c_R2_3) (below_alloc _ _))) (frz_b (cell_lt (c_R2_3)) (f_R2_3) (below_alloc _ _)) hg (by show w.heap.size ≠ (w.heap.size + 1); omega)
  have r_e_4 := Lib.hid (rdxb_gs (rdxb_b (r_e_3.out) (below_alloc _ _)) hg (by omega))
  have R_4 := Lib.hid hr1
  have T_4 := Lib.hid (gs_below (below_trans (T_3.out) (below_alloc _ _)) hg (by first | omega | (simp; done) | (simp; omega)) (by omega))
  have z_4 : w3.heap.size + 1 ≤ w4.heap.size := (by have := hg.size; (try simp at this); omega)
  have ac_R0_4 := fun o => cell_b (c_R0_4) (below_alloc _ o)
  have bc_R0_4 := fun o o1 => cell_b (ac_R0_4 o) (below_alloc _ o1)
  have ac_R1_4 := fun o => cell_b (c_R1_4) (below_alloc _ o)
  have bc_R1_4 := fun o o1 => cell_b (ac_R1_4 o) (below_alloc _ o1)
  have ac_R2_4 := fun o => cell_b (c_R2_4) (below_alloc _ o)
  have bc_R2_4 := fun o o1 => cell_b (ac_R2_4 o) (below_alloc _ o1)
  have af_R0_4 := fun o => frz_b (cell_lt (c_R0_4)) (f_R0_4) (below_alloc _ o)
  have bf_R0_4 := fun o o1 => frz_b (cell_lt (ac_R0_4 o)) (af_R0_4 o) (below_alloc _ o1)
  have af_R1_4 := fun o => frz_b (cell_lt (c_R1_4)) (f_R1_4) (below_alloc _ o)
  have bf_R1_4 := fun o o1 => frz_b (cell_lt (ac_R1_4 o)) (af_R1_4 o) (below_alloc _ o1)
  have af_R2_4 := fun o => frz_b (cell_lt (c_R2_4)) (f_R2_4) (below_alloc _ o)
  have bf_R2_4 := fun o o1 => frz_b (cell_lt (ac_R2_4 o)) (af_R2_4 o) (below_alloc _ o1)
  clear hg c_R0_3 c_R1_3 c_R2_3 f_R0_3 f_R1_3 f_R2_3 r_e_3 hr1 R_3 T_3 ac_R0_3 bc_R0_3 ac_R1_3 bc_R1_3 ac_R2_3 bc_R2_3 af_R0_3 bf_R0_3 af_R1_3 bf_R1_3 af_R2_3 bf_R2_3 ht
  go_wp2_with fail
  (with_reducible refine (S_num _ (w.heap.size + 1) _ [1, 2, 1, 3, 0, 10] (0 + 20 + 4) (rdr_b (R_4.out) (below_alloc _ _)) (by omega) (rdb_lit _ #[.int .i64 1, .int .i64 2, .int .i64 1, .int .i64 3, .int .i64 0, .int .i64 10] [1, 2, 1, 3, 0, 10] rfl ((w.heap.size + 1) + 1) (w4.heap.size) 6 (by first | rfl | simp) rfl (by first | omega | (simp; omega))) (by decide) (by decide)).mono ?_)
  rintro e w5 ⟨m, rfl, hm, hr1, hg⟩
  have c_R0_5 := cell_gs (cell_b (c_R0_4) (below_alloc _ _)) hg (by show w.heap.size ≠ (w.heap.size + 1); omega)
  have c_R1_5 := cell_gs (cell_b (c_R1_4) (below_alloc _ _)) hg (by show w.heap.size ≠ (w.heap.size + 1); omega)
  have c_R2_5 := cell_gs (cell_b (c_R2_4) (below_alloc _ _)) hg (by show w.heap.size ≠ (w.heap.size + 1); omega)
  have f_R0_5 := frz_gs (p := ⟨w.heap.size, 0, none⟩) (cell_lt (cell_b (c_R0_4) (below_alloc _ _))) (frz_b (cell_lt (c_R0_4)) (f_R0_4) (below_alloc _ _)) hg (by show w.heap.size ≠ (w.heap.size + 1); omega)
  have f_R1_5 := frz_gs (p := ⟨w.heap.size, 1, none⟩) (cell_lt (cell_b (c_R1_4) (below_alloc _ _))) (frz_b (cell_lt (c_R1_4)) (f_R1_4) (below_alloc _ _)) hg (by show w.heap.size ≠ (w.heap.size + 1); omega)
  have f_R2_5 := frz_gs (p := ⟨w.heap.size, 2, none⟩) (cell_lt (cell_b (c_R2_4) (below_alloc _ _))) (frz_b (cell_lt (c_R2_4)) (f_R2_4) (below_alloc _ _)) hg (by show w.heap.size ≠ (w.heap.size + 1); omega)
  have r_e_5 := Lib.hid (rdxb_gs (rdxb_b (r_e_4.out) (below_alloc _ _)) hg (by omega))
  have R_5 := Lib.hid hr1
  have T_5 := Lib.hid (gs_below (below_trans (T_4.out) (below_alloc _ _)) hg (by first | omega | (simp; done) | (simp; omega)) (by omega))
  have z_5 : w4.heap.size + 1 ≤ w5.heap.size := (by have := hg.size; (try simp at this); omega)
  have ac_R0_5 := fun o => cell_b (c_R0_5) (below_alloc _ o)
  have bc_R0_5 := fun o o1 => cell_b (ac_R0_5 o) (below_alloc _ o1)
  have ac_R1_5 := fun o => cell_b (c_R1_5) (below_alloc _ o)
  have bc_R1_5 := fun o o1 => cell_b (ac_R1_5 o) (below_alloc _ o1)
  have ac_R2_5 := fun o => cell_b (c_R2_5) (below_alloc _ o)
  have bc_R2_5 := fun o o1 => cell_b (ac_R2_5 o) (below_alloc _ o1)
  have af_R0_5 := fun o => frz_b (cell_lt (c_R0_5)) (f_R0_5) (below_alloc _ o)
  have bf_R0_5 := fun o o1 => frz_b (cell_lt (ac_R0_5 o)) (af_R0_5 o) (below_alloc _ o1)
  have af_R1_5 := fun o => frz_b (cell_lt (c_R1_5)) (f_R1_5) (below_alloc _ o)
  have bf_R1_5 := fun o o1 => frz_b (cell_lt (ac_R1_5 o)) (af_R1_5 o) (below_alloc _ o1)
  have af_R2_5 := fun o => frz_b (cell_lt (c_R2_5)) (f_R2_5) (below_alloc _ o)
  have bf_R2_5 := fun o o1 => frz_b (cell_lt (ac_R2_5 o)) (af_R2_5 o) (below_alloc _ o1)
  clear hg c_R0_4 c_R1_4 c_R2_4 f_R0_4 f_R1_4 f_R2_4 r_e_4 hr1 R_4 T_4 ac_R0_4 bc_R0_4 ac_R1_4 bc_R1_4 ac_R2_4 bc_R2_4 af_R0_4 bf_R0_4 af_R1_4 bf_R1_4 af_R2_4 bf_R2_4 hm
  go_wp2_with fail
  refine bodyPost_ret (v := .tuple #[.agg #[.int .i64 p1, .int .i64 q1, .slice a1 ys.length cap1], .int .i64 t, .int .i64 m]) (by simp [results, Tryd.results30, go_sem, c_R0_5, c_R1_5, c_R2_5]) rfl ⟨p1, q1, ys, t, m, a1, cap1, rfl, by omega, rdxb_mono (rdxb_set (p := ⟨w.heap.size, 2, none⟩) (rdxb_set (p := ⟨w.heap.size, 1, none⟩) (rdxb_set (p := ⟨w.heap.size, 0, none⟩) (r_e_5.out) (fun g h => by have h1 := lr_e.out g h; have h2 := hr_e.out g h; show g ≠ w.heap.size; omega) _) (fun g h => by have h1 := lr_e.out g h; have h2 := hr_e.out g h; show g ≠ w.heap.size; omega) _) (fun g h => by have h1 := lr_e.out g h; have h2 := hr_e.out g h; show g ≠ w.heap.size; omega) _) (by omega), ((((T_5.out).setCell (p := ⟨w.heap.size, 0, none⟩) (by show w.heap.size ≤ w.heap.size; omega) _).setCell (p := ⟨w.heap.size, 1, none⟩) (by show w.heap.size ≤ w.heap.size; omega) _).setCell (p := ⟨w.heap.size, 2, none⟩) (by show w.heap.size ≤ w.heap.size; omega) _)⟩
end Go.Proofs.YtcbdpcalmafdiaaDoor
