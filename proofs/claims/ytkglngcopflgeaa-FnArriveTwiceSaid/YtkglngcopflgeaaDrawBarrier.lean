/- What the draws of barriers hand back: some value that can be read. -/
import Derived.Test.YtkglngcopflgeaaGuard
import Derived.Test.YtkglngcopflgeaaDrawCond
import Derived.Test.YtkglngcopflgeaaQuickBarrier
import Derived.Deep.RegionHeld3
import Derived.Deep.RegionLaw
import Derived.Deep.DrawnRows
namespace Go.Proofs.Ytkglngcopflgeaa
open Go.RowKit
attribute [local go_sem ↓] Go.wp_at_zero Go.wp_at_succ

/-- At the head of l3Barrier's loop. -/
def BaHead (w : World) (r N BB : Nat) (vl : Value) (L : List Int) (vi : Value) (wr : World) : Prop :=
  ∃ (p m : Int) (Z : List Int) (k : Nat) (a : Option Addr) (cap : Nat), vi = .int .i64 (k : Int) ∧ k ≤ L.length ∧ Z.length ≤ k ∧
    wr.cell? ⟨BB, 0, none⟩ = some (.int .i64 p) ∧ wr.cell? ⟨BB, 1, none⟩ = some (.int .i64 m) ∧ wr.cell? ⟨BB, 2, none⟩ = some (.slice a Z.length cap) ∧ wr.frozen? ⟨BB, 0, none⟩ = false ∧ wr.frozen? ⟨BB, 1, none⟩ = false ∧ wr.frozen? ⟨BB, 2, none⟩ = false ∧
    wr.cell? ⟨w.heap.size, 0, none⟩ = some (.int .i64 0) ∧ wr.cell? ⟨w.heap.size, 1, none⟩ = some (.int .i64 0) ∧ wr.cell? ⟨w.heap.size, 2, none⟩ = some (.slice none 0 0) ∧ wr.frozen? ⟨w.heap.size, 0, none⟩ = false ∧ wr.frozen? ⟨w.heap.size, 1, none⟩ = false ∧ wr.frozen? ⟨w.heap.size, 2, none⟩ = false ∧
    RdB wr (w.heap.size + 1) (.slice a Z.length cap) Z ∧ (∀ g, (Value.slice a Z.length cap).ownBlock = some g → g ≠ BB) ∧ RdB wr (BB + 1) vl L ∧ Rdr wr r (N + 6) ∧ w.grownBy wr (some r) ∧ BB < wr.heap.size
/-- A barrier, drawn. -/
def BarrierD (w : World) (r N : Nat) (e : Ending) (w' : World) : Prop :=
  ∃ (p m : Int) (xs : List Int) (a : Option Addr) (cap : Nat), e = .returned (.agg #[.int .i64 p, .int .i64 m, .slice a xs.length cap]) ∧ xs.length ≤ 9 ∧ RdB w' w.heap.size (.slice a xs.length cap) xs ∧ Rdr w' r (N + 8) ∧ w.grownBy w' (some r)
set_option maxHeartbeats 4000000 in
set_option maxRecDepth 100000 in
theorem S_l3Barrier (w : World) (r N : Nat) (hr : Rdr w r N) (hN : N ≤ 10000) :
    Calls Try.prog 44 #[.pointer (some ⟨r, 0, none⟩)] w (BarrierD w r N) := by
  obtain ⟨i0, hi, hz0, hz1, hz2⟩ := info_parts info3
  have R_0 := Lib.hid hr
  have hrw := rdr_lt hr
  clear hr
  go_enter Try.func44, Try.ntmps44
  have T_0 : Hid (w.grownBy w (some r)) := Lib.hid (gs_refl _ _)
  go_wp2_with fail
  (with_reducible refine (S_num _ r _ [3, 2, 4, 1, 6] (N) (rdr_b (rdr_b (R_0.out) (below_alloc _ _)) (below_alloc _ _)) (by omega) (rdb_lit _ #[.int .i64 3, .int .i64 2, .int .i64 4, .int .i64 1, .int .i64 6] [3, 2, 4, 1, 6] rfl (r + 1) (w.heap.size + 1) 5 (by first | rfl | simp) rfl (by first | omega | (simp; omega))) (by decide) (by decide)).mono ?_)
  rintro e w1 ⟨x, rfl, hx, hr1, hg⟩
  have c_R0_1 := cell_gs (p := ⟨w.heap.size, 0, none⟩) (v := .int .i64 0) (by simp) hg (by show w.heap.size ≠ r; omega)
  have f_R0_1 := frz_gs (p := ⟨w.heap.size, 0, none⟩) (by first | omega | (simp; done) | (simp; omega)) (show _ = false by simp) hg (by show w.heap.size ≠ r; omega)
  have c_R1_1 := cell_gs (p := ⟨w.heap.size, 1, none⟩) (v := .int .i64 0) (by simp) hg (by show w.heap.size ≠ r; omega)
  have f_R1_1 := frz_gs (p := ⟨w.heap.size, 1, none⟩) (by first | omega | (simp; done) | (simp; omega)) (show _ = false by simp) hg (by show w.heap.size ≠ r; omega)
  have c_R2_1 := cell_gs (p := ⟨w.heap.size, 2, none⟩) (v := .slice none 0 0) (by simp) hg (by show w.heap.size ≠ r; omega)
  have f_R2_1 := frz_gs (p := ⟨w.heap.size, 2, none⟩) (by first | omega | (simp; done) | (simp; omega)) (show _ = false by simp) hg (by show w.heap.size ≠ r; omega)
  have R_1 := Lib.hid hr1
  have T_1 := Lib.hid (gs_trans (gs_trans (gs_trans (T_0.out) (gs_b (below_alloc _ _))) (gs_b (below_alloc _ _))) hg)
  have z_1 : w.heap.size + 2 ≤ w1.heap.size := (by have := hg.size; (try simp at this); omega)
  have ac_R0_1 := fun o => cell_b (c_R0_1) (below_alloc _ o)
  have bc_R0_1 := fun o o1 => cell_b (ac_R0_1 o) (below_alloc _ o1)
  have ac_R1_1 := fun o => cell_b (c_R1_1) (below_alloc _ o)
  have bc_R1_1 := fun o o1 => cell_b (ac_R1_1 o) (below_alloc _ o1)
  have ac_R2_1 := fun o => cell_b (c_R2_1) (below_alloc _ o)
  have bc_R2_1 := fun o o1 => cell_b (ac_R2_1 o) (below_alloc _ o1)
  have af_R0_1 := fun o => frz_b (cell_lt (c_R0_1)) (f_R0_1) (below_alloc _ o)
  have bf_R0_1 := fun o o1 => frz_b (cell_lt (ac_R0_1 o)) (af_R0_1 o) (below_alloc _ o1)
  have af_R1_1 := fun o => frz_b (cell_lt (c_R1_1)) (f_R1_1) (below_alloc _ o)
  have bf_R1_1 := fun o o1 => frz_b (cell_lt (ac_R1_1 o)) (af_R1_1 o) (below_alloc _ o1)
  have af_R2_1 := fun o => frz_b (cell_lt (c_R2_1)) (f_R2_1) (below_alloc _ o)
  have bf_R2_1 := fun o o1 => frz_b (cell_lt (ac_R2_1 o)) (af_R2_1 o) (below_alloc _ o1)
  clear hg hr1 R_0 T_0 hx
  have ho1 : True := trivial
  go_wp2_with fail
  (with_reducible refine (S_NewBarrier_q _ x (nbP x) 0 [] (nbOk x) 0 rfl rfl rfl rfl rfl).mono ?_)
  rintro e w2 ⟨a0, cap0, rfl, hd, hb⟩
  have c_R0_2 := cell_b (c_R0_1) hb
  have c_R1_2 := cell_b (c_R1_1) hb
  have c_R2_2 := cell_b (c_R2_1) hb
  have f_R0_2 := frz_b (cell_lt (c_R0_1)) (f_R0_1) hb
  have f_R1_2 := frz_b (cell_lt (c_R1_1)) (f_R1_1) hb
  have f_R2_2 := frz_b (cell_lt (c_R2_1)) (f_R2_1) hb
  have R_2 := Lib.hid (rdr_b (R_1.out) hb)
  have T_2 := Lib.hid (gs_trans (T_1.out) (gs_b hb))
  have z_2 : w1.heap.size ≤ w2.heap.size := (by have := hb.size; (try simp at this); omega)
  have r_d_2 := Lib.hid (rdb_mono hd (show w1.heap.size ≤ _ by first | omega | (simp; done) | (simp; omega)))
  have lr_d := Lib.hid (rdb_lo r_d_2.out)
  have hr_d := Lib.hid (rdb_hi r_d_2.out)
  have ac_R0_2 := fun o => cell_b (c_R0_2) (below_alloc _ o)
  have bc_R0_2 := fun o o1 => cell_b (ac_R0_2 o) (below_alloc _ o1)
  have ac_R1_2 := fun o => cell_b (c_R1_2) (below_alloc _ o)
  have bc_R1_2 := fun o o1 => cell_b (ac_R1_2 o) (below_alloc _ o1)
  have ac_R2_2 := fun o => cell_b (c_R2_2) (below_alloc _ o)
  have bc_R2_2 := fun o o1 => cell_b (ac_R2_2 o) (below_alloc _ o1)
  have af_R0_2 := fun o => frz_b (cell_lt (c_R0_2)) (f_R0_2) (below_alloc _ o)
  have bf_R0_2 := fun o o1 => frz_b (cell_lt (ac_R0_2 o)) (af_R0_2 o) (below_alloc _ o1)
  have af_R1_2 := fun o => frz_b (cell_lt (c_R1_2)) (f_R1_2) (below_alloc _ o)
  have bf_R1_2 := fun o o1 => frz_b (cell_lt (ac_R1_2 o)) (af_R1_2 o) (below_alloc _ o1)
  have af_R2_2 := fun o => frz_b (cell_lt (c_R2_2)) (f_R2_2) (below_alloc _ o)
  have bf_R2_2 := fun o o1 => frz_b (cell_lt (ac_R2_2 o)) (af_R2_2 o) (below_alloc _ o1)
  clear hb c_R0_1 c_R1_1 c_R2_1 f_R0_1 f_R1_1 f_R2_1 R_1 T_1 ac_R0_1 bc_R0_1 ac_R1_1 bc_R1_1 ac_R2_1 bc_R2_1 af_R0_1 bf_R0_1 af_R1_1 bf_R1_1 af_R2_1 bf_R2_1 hd
  go_wp2_with fail
  (with_reducible refine (S_l3Threads _ r (N + 1) (rdr_b (R_2.out) (below_alloc _ _)) (by omega)).mono ?_)
  rintro e w3 ⟨L, al, capl, rfl, hL4, hdl, hr1, hg⟩
  have c_R0_3 := cell_gs (cell_b (c_R0_2) (below_alloc _ _)) hg (by show w.heap.size ≠ r; omega)
  have c_R1_3 := cell_gs (cell_b (c_R1_2) (below_alloc _ _)) hg (by show w.heap.size ≠ r; omega)
  have c_R2_3 := cell_gs (cell_b (c_R2_2) (below_alloc _ _)) hg (by show w.heap.size ≠ r; omega)
  have f_R0_3 := frz_gs (p := ⟨w.heap.size, 0, none⟩) (cell_lt (cell_b (c_R0_2) (below_alloc _ _))) (frz_b (cell_lt (c_R0_2)) (f_R0_2) (below_alloc _ _)) hg (by show w.heap.size ≠ r; omega)
  have f_R1_3 := frz_gs (p := ⟨w.heap.size, 1, none⟩) (cell_lt (cell_b (c_R1_2) (below_alloc _ _))) (frz_b (cell_lt (c_R1_2)) (f_R1_2) (below_alloc _ _)) hg (by show w.heap.size ≠ r; omega)
  have f_R2_3 := frz_gs (p := ⟨w.heap.size, 2, none⟩) (cell_lt (cell_b (c_R2_2) (below_alloc _ _))) (frz_b (cell_lt (c_R2_2)) (f_R2_2) (below_alloc _ _)) hg (by show w.heap.size ≠ r; omega)
  have c_B0_3 := cell_gs (p := ⟨w2.heap.size, 0, none⟩) (v := .int .i64 (nbP x)) (by simp) hg (by show w2.heap.size ≠ r; omega)
  have f_B0_3 := frz_gs (p := ⟨w2.heap.size, 0, none⟩) (by first | omega | (simp; done) | (simp; omega)) (show _ = false by simp) hg (by show w2.heap.size ≠ r; omega)
  have c_B1_3 := cell_gs (p := ⟨w2.heap.size, 1, none⟩) (v := .int .i64 0) (by simp) hg (by show w2.heap.size ≠ r; omega)
  have f_B1_3 := frz_gs (p := ⟨w2.heap.size, 1, none⟩) (by first | omega | (simp; done) | (simp; omega)) (show _ = false by simp) hg (by show w2.heap.size ≠ r; omega)
  have c_B2_3 := cell_gs (p := ⟨w2.heap.size, 2, none⟩) (v := .slice a0 0 cap0) (by simp) hg (by show w2.heap.size ≠ r; omega)
  have f_B2_3 := frz_gs (p := ⟨w2.heap.size, 2, none⟩) (by first | omega | (simp; done) | (simp; omega)) (show _ = false by simp) hg (by show w2.heap.size ≠ r; omega)
  have r_d_3 := Lib.hid (rdb_gs (rdb_b (r_d_2.out) (below_alloc _ _)) hg (by omega))
  have R_3 := Lib.hid hr1
  have T_3 := Lib.hid (gs_trans (gs_trans (T_2.out) (gs_b (below_alloc _ _))) hg)
  have z_3 : w2.heap.size + 1 ≤ w3.heap.size := (by have := hg.size; (try simp at this); omega)
  have o_l_3 := Lib.hid (own_base hdl (show w2.heap.size + 1 ≤ _ by first | omega | (simp; done) | (simp; omega)))
  have lo_l := Lib.hid (own_lo o_l_3.out)
  have hi_l := Lib.hid (own_hi o_l_3.out)
  have ac_R0_3 := fun o => cell_b (c_R0_3) (below_alloc _ o)
  have bc_R0_3 := fun o o1 => cell_b (ac_R0_3 o) (below_alloc _ o1)
  have ac_R1_3 := fun o => cell_b (c_R1_3) (below_alloc _ o)
  have bc_R1_3 := fun o o1 => cell_b (ac_R1_3 o) (below_alloc _ o1)
  have ac_R2_3 := fun o => cell_b (c_R2_3) (below_alloc _ o)
  have bc_R2_3 := fun o o1 => cell_b (ac_R2_3 o) (below_alloc _ o1)
  have ac_B0_3 := fun o => cell_b (c_B0_3) (below_alloc _ o)
  have bc_B0_3 := fun o o1 => cell_b (ac_B0_3 o) (below_alloc _ o1)
  have ac_B1_3 := fun o => cell_b (c_B1_3) (below_alloc _ o)
  have bc_B1_3 := fun o o1 => cell_b (ac_B1_3 o) (below_alloc _ o1)
  have ac_B2_3 := fun o => cell_b (c_B2_3) (below_alloc _ o)
  have bc_B2_3 := fun o o1 => cell_b (ac_B2_3 o) (below_alloc _ o1)
  have af_R0_3 := fun o => frz_b (cell_lt (c_R0_3)) (f_R0_3) (below_alloc _ o)
  have bf_R0_3 := fun o o1 => frz_b (cell_lt (ac_R0_3 o)) (af_R0_3 o) (below_alloc _ o1)
  have af_R1_3 := fun o => frz_b (cell_lt (c_R1_3)) (f_R1_3) (below_alloc _ o)
  have bf_R1_3 := fun o o1 => frz_b (cell_lt (ac_R1_3 o)) (af_R1_3 o) (below_alloc _ o1)
  have af_R2_3 := fun o => frz_b (cell_lt (c_R2_3)) (f_R2_3) (below_alloc _ o)
  have bf_R2_3 := fun o o1 => frz_b (cell_lt (ac_R2_3 o)) (af_R2_3 o) (below_alloc _ o1)
  have af_B0_3 := fun o => frz_b (cell_lt (c_B0_3)) (f_B0_3) (below_alloc _ o)
  have bf_B0_3 := fun o o1 => frz_b (cell_lt (ac_B0_3 o)) (af_B0_3 o) (below_alloc _ o1)
  have af_B1_3 := fun o => frz_b (cell_lt (c_B1_3)) (f_B1_3) (below_alloc _ o)
  have bf_B1_3 := fun o o1 => frz_b (cell_lt (ac_B1_3 o)) (af_B1_3 o) (below_alloc _ o1)
  have af_B2_3 := fun o => frz_b (cell_lt (c_B2_3)) (f_B2_3) (below_alloc _ o)
  have bf_B2_3 := fun o o1 => frz_b (cell_lt (ac_B2_3 o)) (af_B2_3 o) (below_alloc _ o1)
  clear hg c_R0_2 c_R1_2 c_R2_2 f_R0_2 f_R1_2 f_R2_2 r_d_2 hr1 R_2 T_2 ac_R0_2 bc_R0_2 ac_R1_2 bc_R1_2 ac_R2_2 bc_R2_2 af_R0_2 bf_R0_2 af_R1_2 bf_R1_2 af_R2_2 bf_R2_2 hdl
  go_wp2_with fail
  go_loopw [6, 7, 8, 9] (fun i _ _ _ wr => BaHead w r N (w2.heap.size) (.slice al L.length capl) L i wr) (fun i _ _ _ _ => (L.length - intOf i).toNat)
  case atStart => exact ⟨nbP x, 0, [], 0, a0, cap0, rfl, by omega, by simp, c_B0_3, c_B1_3, c_B2_3, f_B0_3, f_B1_3, f_B2_3, c_R0_3, c_R1_3, c_R2_3, f_R0_3, f_R1_3, f_R2_3, rdb_mono (r_d_3.out) (by omega), fun g h => by have h2 := hr_d.out g h; omega, rdb_mono (ow_rdb (o_l_3.out)) (by omega), (R_3.out), (T_3.out), by omega⟩
  case round =>
    obtain ⟨p, m, Z, k, a, cap, rfl, hkj, hxj, c_B0_10, c_B1_10, c_B2_10, f_B0_10, f_B1_10, f_B2_10, c_R0_10, c_R1_10, c_R2_10, f_R0_10, f_R1_10, f_R2_10, hrd, hne, hrl, hrr, hgr, hBG⟩ := hrel
    obtain ⟨w10, rfl⟩ : ∃ wo : World, wo = wr := ⟨_, rfl⟩
    have hz10 := hgr.size
    have r_d_10 := Lib.hid hrd
    have lr_d := Lib.hid (rdb_lo hrd)
    have hr_d := Lib.hid (rdb_hi hrd)
    have HNE := Lib.hid hne
    have r_l_10 := Lib.hid hrl
    have lr_l := Lib.hid (rdb_lo hrl)
    have hr_l := Lib.hid (rdb_hi hrl)
    have R_10 := Lib.hid hrr
    have T_10 := Lib.hid hgr
    clear hrd hne hrl hrr hgr r_d_3 o_l_3 R_3 T_3 c_B0_3 c_B1_3 c_B2_3 c_R0_3 c_R1_3 c_R2_3 f_B0_3 f_B1_3 f_B2_3 f_R0_3 f_R1_3 f_R2_3 ac_R0_3 bc_R0_3 ac_R1_3 bc_R1_3 ac_R2_3 bc_R2_3 ac_B0_3 bc_B0_3 ac_B1_3 bc_B1_3 ac_B2_3 bc_B2_3 af_R0_3 bf_R0_3 af_R1_3 bf_R1_3 af_R2_3 bf_R2_3 af_B0_3 bf_B0_3 af_B1_3 bf_B1_3 af_B2_3 bf_B2_3
    by_cases hk : k < L.length
    · obtain ⟨gl, ol, rfl, hcl⟩ := rdb_cell r_l_10.out hk
      have c_Q0_10 := hcl
      have hgl : gl < w10.heap.size := cell_lt hcl
      clear hcl
      have i1 : (0 : Int) ≤ (k : Int) := by omega
      have i2 : (k : Int) < (L.length : Int) := by omega
      generalize L.getD k 0 = y at *
      have ac_B0_10 := fun o => cell_b (c_B0_10) (below_alloc _ o)
      have bc_B0_10 := fun o o1 => cell_b (ac_B0_10 o) (below_alloc _ o1)
      have ac_B1_10 := fun o => cell_b (c_B1_10) (below_alloc _ o)
      have bc_B1_10 := fun o o1 => cell_b (ac_B1_10 o) (below_alloc _ o1)
      have ac_B2_10 := fun o => cell_b (c_B2_10) (below_alloc _ o)
      have bc_B2_10 := fun o o1 => cell_b (ac_B2_10 o) (below_alloc _ o1)
      have ac_R0_10 := fun o => cell_b (c_R0_10) (below_alloc _ o)
      have bc_R0_10 := fun o o1 => cell_b (ac_R0_10 o) (below_alloc _ o1)
      have ac_R1_10 := fun o => cell_b (c_R1_10) (below_alloc _ o)
      have bc_R1_10 := fun o o1 => cell_b (ac_R1_10 o) (below_alloc _ o1)
      have ac_R2_10 := fun o => cell_b (c_R2_10) (below_alloc _ o)
      have bc_R2_10 := fun o o1 => cell_b (ac_R2_10 o) (below_alloc _ o1)
      have ac_Q0_10 := fun o => cell_b (c_Q0_10) (below_alloc _ o)
      have bc_Q0_10 := fun o o1 => cell_b (ac_Q0_10 o) (below_alloc _ o1)
      have af_B0_10 := fun o => frz_b (cell_lt (c_B0_10)) (f_B0_10) (below_alloc _ o)
      have bf_B0_10 := fun o o1 => frz_b (cell_lt (ac_B0_10 o)) (af_B0_10 o) (below_alloc _ o1)
      have af_B1_10 := fun o => frz_b (cell_lt (c_B1_10)) (f_B1_10) (below_alloc _ o)
      have bf_B1_10 := fun o o1 => frz_b (cell_lt (ac_B1_10 o)) (af_B1_10 o) (below_alloc _ o1)
      have af_B2_10 := fun o => frz_b (cell_lt (c_B2_10)) (f_B2_10) (below_alloc _ o)
      have bf_B2_10 := fun o o1 => frz_b (cell_lt (ac_B2_10 o)) (af_B2_10 o) (below_alloc _ o1)
      have af_R0_10 := fun o => frz_b (cell_lt (c_R0_10)) (f_R0_10) (below_alloc _ o)
      have bf_R0_10 := fun o o1 => frz_b (cell_lt (ac_R0_10 o)) (af_R0_10 o) (below_alloc _ o1)
      have af_R1_10 := fun o => frz_b (cell_lt (c_R1_10)) (f_R1_10) (below_alloc _ o)
      have bf_R1_10 := fun o o1 => frz_b (cell_lt (ac_R1_10 o)) (af_R1_10 o) (below_alloc _ o1)
      have af_R2_10 := fun o => frz_b (cell_lt (c_R2_10)) (f_R2_10) (below_alloc _ o)
      have bf_R2_10 := fun o o1 => frz_b (cell_lt (ac_R2_10 o)) (af_R2_10 o) (below_alloc _ o1)
      go_wp2_with fail
      go_region_law (first | (go_simp; go_at_call 33; (with_reducible refine (S_Arrive_q _ p m _ Z y (arr p m Z y).1 (arr p m Z y).2.1 (arr p m Z y).2.2.1 (arr p m Z y).2.2.2.1 (arr p m Z y).2.2.2.2 (arr p m Z y).2.2.1.length (arr p m Z y).2.2.2.1.length (rdb_rd (rdb_b (rdb_b (r_d_10.out) (below_alloc _ _)) (drew_below _))) (by omega) rfl rfl rfl rfl rfl rfl rfl).mono ?_); rintro e w11 ⟨a1, cap1, a2, cap2, rfl, hd1, hd2, hb⟩; have c_B0_11 := cell_b (cell_b (cell_b (c_B0_10) (below_alloc _ _)) (drew_below _)) hb; have c_B1_11 := cell_b (cell_b (cell_b (c_B1_10) (below_alloc _ _)) (drew_below _)) hb; have c_B2_11 := cell_b (cell_b (cell_b (c_B2_10) (below_alloc _ _)) (drew_below _)) hb; have c_R0_11 := cell_b (cell_b (cell_b (c_R0_10) (below_alloc _ _)) (drew_below _)) hb; have c_R1_11 := cell_b (cell_b (cell_b (c_R1_10) (below_alloc _ _)) (drew_below _)) hb; have c_R2_11 := cell_b (cell_b (cell_b (c_R2_10) (below_alloc _ _)) (drew_below _)) hb; have c_Q0_11 := cell_b (cell_b (cell_b (c_Q0_10) (below_alloc _ _)) (drew_below _)) hb; have f_B0_11 := frz_b (cell_lt (cell_b (cell_b (c_B0_10) (below_alloc _ _)) (drew_below _))) (frz_b (cell_lt (cell_b (c_B0_10) (below_alloc _ _))) (frz_b (cell_lt (c_B0_10)) (f_B0_10) (below_alloc _ _)) (drew_below _)) hb; have f_B1_11 := frz_b (cell_lt (cell_b (cell_b (c_B1_10) (below_alloc _ _)) (drew_below _))) (frz_b (cell_lt (cell_b (c_B1_10) (below_alloc _ _))) (frz_b (cell_lt (c_B1_10)) (f_B1_10) (below_alloc _ _)) (drew_below _)) hb; have f_B2_11 := frz_b (cell_lt (cell_b (cell_b (c_B2_10) (below_alloc _ _)) (drew_below _))) (frz_b (cell_lt (cell_b (c_B2_10) (below_alloc _ _))) (frz_b (cell_lt (c_B2_10)) (f_B2_10) (below_alloc _ _)) (drew_below _)) hb; have f_R0_11 := frz_b (cell_lt (cell_b (cell_b (c_R0_10) (below_alloc _ _)) (drew_below _))) (frz_b (cell_lt (cell_b (c_R0_10) (below_alloc _ _))) (frz_b (cell_lt (c_R0_10)) (f_R0_10) (below_alloc _ _)) (drew_below _)) hb; have f_R1_11 := frz_b (cell_lt (cell_b (cell_b (c_R1_10) (below_alloc _ _)) (drew_below _))) (frz_b (cell_lt (cell_b (c_R1_10) (below_alloc _ _))) (frz_b (cell_lt (c_R1_10)) (f_R1_10) (below_alloc _ _)) (drew_below _)) hb; have f_R2_11 := frz_b (cell_lt (cell_b (cell_b (c_R2_10) (below_alloc _ _)) (drew_below _))) (frz_b (cell_lt (cell_b (c_R2_10) (below_alloc _ _))) (frz_b (cell_lt (c_R2_10)) (f_R2_10) (below_alloc _ _)) (drew_below _)) hb; have c_N0_11 := cell_b (p := ⟨w10.heap.size, 0, none⟩) (v := .int .i64 0) (by simp) hb; have f_N0_11 := frz_b (p := ⟨w10.heap.size, 0, none⟩) (by first | omega | (simp; done) | (simp; omega)) (show _ = false by simp) hb; have c_N1_11 := cell_b (p := ⟨w10.heap.size, 1, none⟩) (v := .int .i64 0) (by simp) hb; have f_N1_11 := frz_b (p := ⟨w10.heap.size, 1, none⟩) (by first | omega | (simp; done) | (simp; omega)) (show _ = false by simp) hb; have c_N2_11 := cell_b (p := ⟨w10.heap.size, 2, none⟩) (v := .slice none 0 0) (by simp) hb; have f_N2_11 := frz_b (p := ⟨w10.heap.size, 2, none⟩) (by first | omega | (simp; done) | (simp; omega)) (show _ = false by simp) hb; have r_d_11 := Lib.hid (rdb_b (rdb_b (rdb_b (r_d_10.out) (below_alloc _ _)) (drew_below _)) hb); have r_l_11 := Lib.hid (rdb_b (rdb_b (rdb_b (r_l_10.out) (below_alloc _ _)) (drew_below _)) hb); have R_11 := Lib.hid (rdr_b (rdr_b (rdr_b (R_10.out) (below_alloc _ _)) (drew_below _)) hb); have T_11 := Lib.hid (gs_trans (gs_trans (gs_trans (T_10.out) (gs_b (below_alloc _ _))) (gs_b (drew_below _))) (gs_b hb)); have z_11 : w10.heap.size + 1 ≤ w11.heap.size := (by have := hb.size; (try simp at this); omega); have r_e_11 := Lib.hid (rdb_mono hd1 (show w10.heap.size + 1 ≤ _ by first | omega | (simp; done) | (simp; omega))); have lr_e := Lib.hid (rdb_lo r_e_11.out); have hr_e := Lib.hid (rdb_hi r_e_11.out); clear hd2; have ac_B0_11 := fun o => cell_b (c_B0_11) (below_alloc _ o); have bc_B0_11 := fun o o1 => cell_b (ac_B0_11 o) (below_alloc _ o1); have ac_B1_11 := fun o => cell_b (c_B1_11) (below_alloc _ o); have bc_B1_11 := fun o o1 => cell_b (ac_B1_11 o) (below_alloc _ o1); have ac_B2_11 := fun o => cell_b (c_B2_11) (below_alloc _ o); have bc_B2_11 := fun o o1 => cell_b (ac_B2_11 o) (below_alloc _ o1); have ac_R0_11 := fun o => cell_b (c_R0_11) (below_alloc _ o); have bc_R0_11 := fun o o1 => cell_b (ac_R0_11 o) (below_alloc _ o1); have ac_R1_11 := fun o => cell_b (c_R1_11) (below_alloc _ o); have bc_R1_11 := fun o o1 => cell_b (ac_R1_11 o) (below_alloc _ o1); have ac_R2_11 := fun o => cell_b (c_R2_11) (below_alloc _ o); have bc_R2_11 := fun o o1 => cell_b (ac_R2_11 o) (below_alloc _ o1); have ac_Q0_11 := fun o => cell_b (c_Q0_11) (below_alloc _ o); have bc_Q0_11 := fun o o1 => cell_b (ac_Q0_11 o) (below_alloc _ o1); have ac_N0_11 := fun o => cell_b (c_N0_11) (below_alloc _ o); have bc_N0_11 := fun o o1 => cell_b (ac_N0_11 o) (below_alloc _ o1); have ac_N1_11 := fun o => cell_b (c_N1_11) (below_alloc _ o); have bc_N1_11 := fun o o1 => cell_b (ac_N1_11 o) (below_alloc _ o1); have ac_N2_11 := fun o => cell_b (c_N2_11) (below_alloc _ o); have bc_N2_11 := fun o o1 => cell_b (ac_N2_11 o) (below_alloc _ o1); have af_B0_11 := fun o => frz_b (cell_lt (c_B0_11)) (f_B0_11) (below_alloc _ o); have bf_B0_11 := fun o o1 => frz_b (cell_lt (ac_B0_11 o)) (af_B0_11 o) (below_alloc _ o1); have af_B1_11 := fun o => frz_b (cell_lt (c_B1_11)) (f_B1_11) (below_alloc _ o); have bf_B1_11 := fun o o1 => frz_b (cell_lt (ac_B1_11 o)) (af_B1_11 o) (below_alloc _ o1); have af_B2_11 := fun o => frz_b (cell_lt (c_B2_11)) (f_B2_11) (below_alloc _ o); have bf_B2_11 := fun o o1 => frz_b (cell_lt (ac_B2_11 o)) (af_B2_11 o) (below_alloc _ o1); have af_R0_11 := fun o => frz_b (cell_lt (c_R0_11)) (f_R0_11) (below_alloc _ o); have bf_R0_11 := fun o o1 => frz_b (cell_lt (ac_R0_11 o)) (af_R0_11 o) (below_alloc _ o1); have af_R1_11 := fun o => frz_b (cell_lt (c_R1_11)) (f_R1_11) (below_alloc _ o); have bf_R1_11 := fun o o1 => frz_b (cell_lt (ac_R1_11 o)) (af_R1_11 o) (below_alloc _ o1); have af_R2_11 := fun o => frz_b (cell_lt (c_R2_11)) (f_R2_11) (below_alloc _ o); have bf_R2_11 := fun o o1 => frz_b (cell_lt (ac_R2_11 o)) (af_R2_11 o) (below_alloc _ o1); have af_N0_11 := fun o => frz_b (cell_lt (c_N0_11)) (f_N0_11) (below_alloc _ o); have bf_N0_11 := fun o o1 => frz_b (cell_lt (ac_N0_11 o)) (af_N0_11 o) (below_alloc _ o1); have af_N1_11 := fun o => frz_b (cell_lt (c_N1_11)) (f_N1_11) (below_alloc _ o); have bf_N1_11 := fun o o1 => frz_b (cell_lt (ac_N1_11 o)) (af_N1_11 o) (below_alloc _ o1); have af_N2_11 := fun o => frz_b (cell_lt (c_N2_11)) (f_N2_11) (below_alloc _ o); have bf_N2_11 := fun o o1 => frz_b (cell_lt (ac_N2_11 o)) (af_N2_11 o) (below_alloc _ o1); clear hb c_B0_10 c_B1_10 c_B2_10 c_R0_10 c_R1_10 c_R2_10 c_Q0_10 f_B0_10 f_B1_10 f_B2_10 f_R0_10 f_R1_10 f_R2_10 r_d_10 r_l_10 R_10 T_10 ac_B0_10 bc_B0_10 ac_B1_10 bc_B1_10 ac_B2_10 bc_B2_10 ac_R0_10 bc_R0_10 ac_R1_10 bc_R1_10 ac_R2_10 bc_R2_10 ac_Q0_10 bc_Q0_10 af_B0_10 bf_B0_10 af_B1_10 bf_B1_10 af_B2_10 bf_B2_10 af_R0_10 bf_R0_10 af_R1_10 bf_R1_10 af_R2_10 bf_R2_10 hd1; have way_0 := True.intro) | (go_simp; go_at_call 33; (with_reducible refine (S_Arrive_q _ p m _ Z y (arr p m Z y).1 (arr p m Z y).2.1 (arr p m Z y).2.2.1 (arr p m Z y).2.2.2.1 (arr p m Z y).2.2.2.2 (arr p m Z y).2.2.1.length (arr p m Z y).2.2.2.1.length (rdb_rd (rdb_b (r_d_10.out) (drew_below _))) (by omega) rfl rfl rfl rfl rfl rfl rfl).mono ?_); rintro e w11 ⟨a1, cap1, a2, cap2, rfl, hd1, hd2, hb⟩; have c_B0_11 := cell_b (cell_b (c_B0_10) (drew_below _)) hb; have c_B1_11 := cell_b (cell_b (c_B1_10) (drew_below _)) hb; have c_B2_11 := cell_b (cell_b (c_B2_10) (drew_below _)) hb; have c_R0_11 := cell_b (cell_b (c_R0_10) (drew_below _)) hb; have c_R1_11 := cell_b (cell_b (c_R1_10) (drew_below _)) hb; have c_R2_11 := cell_b (cell_b (c_R2_10) (drew_below _)) hb; have c_Q0_11 := cell_b (cell_b (c_Q0_10) (drew_below _)) hb; have f_B0_11 := frz_b (cell_lt (cell_b (c_B0_10) (drew_below _))) (frz_b (cell_lt (c_B0_10)) (f_B0_10) (drew_below _)) hb; have f_B1_11 := frz_b (cell_lt (cell_b (c_B1_10) (drew_below _))) (frz_b (cell_lt (c_B1_10)) (f_B1_10) (drew_below _)) hb; have f_B2_11 := frz_b (cell_lt (cell_b (c_B2_10) (drew_below _))) (frz_b (cell_lt (c_B2_10)) (f_B2_10) (drew_below _)) hb; have f_R0_11 := frz_b (cell_lt (cell_b (c_R0_10) (drew_below _))) (frz_b (cell_lt (c_R0_10)) (f_R0_10) (drew_below _)) hb; have f_R1_11 := frz_b (cell_lt (cell_b (c_R1_10) (drew_below _))) (frz_b (cell_lt (c_R1_10)) (f_R1_10) (drew_below _)) hb; have f_R2_11 := frz_b (cell_lt (cell_b (c_R2_10) (drew_below _))) (frz_b (cell_lt (c_R2_10)) (f_R2_10) (drew_below _)) hb; have r_d_11 := Lib.hid (rdb_b (rdb_b (r_d_10.out) (drew_below _)) hb); have r_l_11 := Lib.hid (rdb_b (rdb_b (r_l_10.out) (drew_below _)) hb); have R_11 := Lib.hid (rdr_b (rdr_b (R_10.out) (drew_below _)) hb); have T_11 := Lib.hid (gs_trans (gs_trans (T_10.out) (gs_b (drew_below _))) (gs_b hb)); have z_11 : w10.heap.size ≤ w11.heap.size := (by have := hb.size; (try simp at this); omega); have r_e_11 := Lib.hid (rdb_mono hd1 (show w10.heap.size ≤ _ by first | omega | (simp; done) | (simp; omega))); have lr_e := Lib.hid (rdb_lo r_e_11.out); have hr_e := Lib.hid (rdb_hi r_e_11.out); clear hd2; have ac_B0_11 := fun o => cell_b (c_B0_11) (below_alloc _ o); have bc_B0_11 := fun o o1 => cell_b (ac_B0_11 o) (below_alloc _ o1); have ac_B1_11 := fun o => cell_b (c_B1_11) (below_alloc _ o); have bc_B1_11 := fun o o1 => cell_b (ac_B1_11 o) (below_alloc _ o1); have ac_B2_11 := fun o => cell_b (c_B2_11) (below_alloc _ o); have bc_B2_11 := fun o o1 => cell_b (ac_B2_11 o) (below_alloc _ o1); have ac_R0_11 := fun o => cell_b (c_R0_11) (below_alloc _ o); have bc_R0_11 := fun o o1 => cell_b (ac_R0_11 o) (below_alloc _ o1); have ac_R1_11 := fun o => cell_b (c_R1_11) (below_alloc _ o); have bc_R1_11 := fun o o1 => cell_b (ac_R1_11 o) (below_alloc _ o1); have ac_R2_11 := fun o => cell_b (c_R2_11) (below_alloc _ o); have bc_R2_11 := fun o o1 => cell_b (ac_R2_11 o) (below_alloc _ o1); have ac_Q0_11 := fun o => cell_b (c_Q0_11) (below_alloc _ o); have bc_Q0_11 := fun o o1 => cell_b (ac_Q0_11 o) (below_alloc _ o1); have af_B0_11 := fun o => frz_b (cell_lt (c_B0_11)) (f_B0_11) (below_alloc _ o); have bf_B0_11 := fun o o1 => frz_b (cell_lt (ac_B0_11 o)) (af_B0_11 o) (below_alloc _ o1); have af_B1_11 := fun o => frz_b (cell_lt (c_B1_11)) (f_B1_11) (below_alloc _ o); have bf_B1_11 := fun o o1 => frz_b (cell_lt (ac_B1_11 o)) (af_B1_11 o) (below_alloc _ o1); have af_B2_11 := fun o => frz_b (cell_lt (c_B2_11)) (f_B2_11) (below_alloc _ o); have bf_B2_11 := fun o o1 => frz_b (cell_lt (ac_B2_11 o)) (af_B2_11 o) (below_alloc _ o1); have af_R0_11 := fun o => frz_b (cell_lt (c_R0_11)) (f_R0_11) (below_alloc _ o); have bf_R0_11 := fun o o1 => frz_b (cell_lt (ac_R0_11 o)) (af_R0_11 o) (below_alloc _ o1); have af_R1_11 := fun o => frz_b (cell_lt (c_R1_11)) (f_R1_11) (below_alloc _ o); have bf_R1_11 := fun o o1 => frz_b (cell_lt (ac_R1_11 o)) (af_R1_11 o) (below_alloc _ o1); have af_R2_11 := fun o => frz_b (cell_lt (c_R2_11)) (f_R2_11) (below_alloc _ o); have bf_R2_11 := fun o o1 => frz_b (cell_lt (ac_R2_11 o)) (af_R2_11 o) (below_alloc _ o1); clear hb c_B0_10 c_B1_10 c_B2_10 c_R0_10 c_R1_10 c_R2_10 c_Q0_10 f_B0_10 f_B1_10 f_B2_10 f_R0_10 f_R1_10 f_R2_10 r_d_10 r_l_10 R_10 T_10 ac_B0_10 bc_B0_10 ac_B1_10 bc_B1_10 ac_B2_10 bc_B2_10 ac_R0_10 bc_R0_10 ac_R1_10 bc_R1_10 ac_R2_10 bc_R2_10 ac_Q0_10 bc_Q0_10 af_B0_10 bf_B0_10 af_B1_10 bf_B1_10 af_B2_10 bf_B2_10 af_R0_10 bf_R0_10 af_R1_10 bf_R1_10 af_R2_10 bf_R2_10 hd1; have way_1 := True.intro))
      all_goals
        first
          | have _way := way_0
            by_cases hok : (arr p m Z y).2.2.2.2 = true
            · have hok1 := hok
              go_wp2_with fail
              go_roundw
              case rel => exact ⟨(arr p m Z y).1, (arr p m Z y).2.1, (arr p m Z y).2.2.1, k + 1, a1, cap1, by go_num, by omega, by first | omega | (have := arr_len1 p m Z y; omega), cell_set (p := ⟨w2.heap.size, 2, none⟩) (cell_set (p := ⟨w2.heap.size, 1, none⟩) (World.cell?_setCell_same _ _ _ (cell_set (p := ⟨w10.heap.size, 2, none⟩) (cell_set (p := ⟨w10.heap.size, 1, none⟩) (cell_set (p := ⟨w10.heap.size, 0, none⟩) (c_B0_11) (ne_blk (by omega))) (ne_blk (by omega))) (ne_blk (by omega)))) (ne_off (by decide))) (ne_off (by decide)), cell_set (p := ⟨w2.heap.size, 2, none⟩) (World.cell?_setCell_same _ _ _ (cell_set (p := ⟨w2.heap.size, 0, none⟩) (cell_set (p := ⟨w10.heap.size, 2, none⟩) (cell_set (p := ⟨w10.heap.size, 1, none⟩) (cell_set (p := ⟨w10.heap.size, 0, none⟩) (c_B1_11) (ne_blk (by omega))) (ne_blk (by omega))) (ne_blk (by omega))) (ne_off (by decide)))) (ne_off (by decide)), World.cell?_setCell_same _ _ _ (cell_set (p := ⟨w2.heap.size, 1, none⟩) (cell_set (p := ⟨w2.heap.size, 0, none⟩) (cell_set (p := ⟨w10.heap.size, 2, none⟩) (cell_set (p := ⟨w10.heap.size, 1, none⟩) (cell_set (p := ⟨w10.heap.size, 0, none⟩) (c_B2_11) (ne_blk (by omega))) (ne_blk (by omega))) (ne_blk (by omega))) (ne_off (by decide))) (ne_off (by decide))), (World.frozen?_setCell _ _ _ _).trans ((World.frozen?_setCell _ _ _ _).trans ((World.frozen?_setCell _ _ _ _).trans ((World.frozen?_setCell _ _ _ _).trans ((World.frozen?_setCell _ _ _ _).trans ((World.frozen?_setCell _ _ _ _).trans (f_B0_11)))))), (World.frozen?_setCell _ _ _ _).trans ((World.frozen?_setCell _ _ _ _).trans ((World.frozen?_setCell _ _ _ _).trans ((World.frozen?_setCell _ _ _ _).trans ((World.frozen?_setCell _ _ _ _).trans ((World.frozen?_setCell _ _ _ _).trans (f_B1_11)))))), (World.frozen?_setCell _ _ _ _).trans ((World.frozen?_setCell _ _ _ _).trans ((World.frozen?_setCell _ _ _ _).trans ((World.frozen?_setCell _ _ _ _).trans ((World.frozen?_setCell _ _ _ _).trans ((World.frozen?_setCell _ _ _ _).trans (f_B2_11)))))), cell_set (p := ⟨w2.heap.size, 2, none⟩) (cell_set (p := ⟨w2.heap.size, 1, none⟩) (cell_set (p := ⟨w2.heap.size, 0, none⟩) (cell_set (p := ⟨w10.heap.size, 2, none⟩) (cell_set (p := ⟨w10.heap.size, 1, none⟩) (cell_set (p := ⟨w10.heap.size, 0, none⟩) (c_R0_11) (ne_blk (by omega))) (ne_blk (by omega))) (ne_blk (by omega))) (ne_blk (by omega))) (ne_blk (by omega))) (ne_blk (by omega)), cell_set (p := ⟨w2.heap.size, 2, none⟩) (cell_set (p := ⟨w2.heap.size, 1, none⟩) (cell_set (p := ⟨w2.heap.size, 0, none⟩) (cell_set (p := ⟨w10.heap.size, 2, none⟩) (cell_set (p := ⟨w10.heap.size, 1, none⟩) (cell_set (p := ⟨w10.heap.size, 0, none⟩) (c_R1_11) (ne_blk (by omega))) (ne_blk (by omega))) (ne_blk (by omega))) (ne_blk (by omega))) (ne_blk (by omega))) (ne_blk (by omega)), cell_set (p := ⟨w2.heap.size, 2, none⟩) (cell_set (p := ⟨w2.heap.size, 1, none⟩) (cell_set (p := ⟨w2.heap.size, 0, none⟩) (cell_set (p := ⟨w10.heap.size, 2, none⟩) (cell_set (p := ⟨w10.heap.size, 1, none⟩) (cell_set (p := ⟨w10.heap.size, 0, none⟩) (c_R2_11) (ne_blk (by omega))) (ne_blk (by omega))) (ne_blk (by omega))) (ne_blk (by omega))) (ne_blk (by omega))) (ne_blk (by omega)), (World.frozen?_setCell _ _ _ _).trans ((World.frozen?_setCell _ _ _ _).trans ((World.frozen?_setCell _ _ _ _).trans ((World.frozen?_setCell _ _ _ _).trans ((World.frozen?_setCell _ _ _ _).trans ((World.frozen?_setCell _ _ _ _).trans (f_R0_11)))))), (World.frozen?_setCell _ _ _ _).trans ((World.frozen?_setCell _ _ _ _).trans ((World.frozen?_setCell _ _ _ _).trans ((World.frozen?_setCell _ _ _ _).trans ((World.frozen?_setCell _ _ _ _).trans ((World.frozen?_setCell _ _ _ _).trans (f_R1_11)))))), (World.frozen?_setCell _ _ _ _).trans ((World.frozen?_setCell _ _ _ _).trans ((World.frozen?_setCell _ _ _ _).trans ((World.frozen?_setCell _ _ _ _).trans ((World.frozen?_setCell _ _ _ _).trans ((World.frozen?_setCell _ _ _ _).trans (f_R2_11)))))), rdb_mono (rdb_set (p := ⟨w2.heap.size, 2, none⟩) (rdb_set (p := ⟨w2.heap.size, 1, none⟩) (rdb_set (p := ⟨w2.heap.size, 0, none⟩) (rdb_set (p := ⟨w10.heap.size, 2, none⟩) (rdb_set (p := ⟨w10.heap.size, 1, none⟩) (rdb_set (p := ⟨w10.heap.size, 0, none⟩) (r_e_11.out) (fun g h => by have h1 := lr_e.out g h; have h2 := hr_e.out g h; show g ≠ w10.heap.size; omega) _) (fun g h => by have h1 := lr_e.out g h; have h2 := hr_e.out g h; show g ≠ w10.heap.size; omega) _) (fun g h => by have h1 := lr_e.out g h; have h2 := hr_e.out g h; show g ≠ w10.heap.size; omega) _) (fun g h => by have h1 := lr_e.out g h; have h2 := hr_e.out g h; show g ≠ w2.heap.size; omega) _) (fun g h => by have h1 := lr_e.out g h; have h2 := hr_e.out g h; show g ≠ w2.heap.size; omega) _) (fun g h => by have h1 := lr_e.out g h; have h2 := hr_e.out g h; show g ≠ w2.heap.size; omega) _) (by omega), fun g h => by have h1 := lr_e.out g h; omega, (rdb_set (p := ⟨w2.heap.size, 2, none⟩) (rdb_set (p := ⟨w2.heap.size, 1, none⟩) (rdb_set (p := ⟨w2.heap.size, 0, none⟩) (rdb_set (p := ⟨w10.heap.size, 2, none⟩) (rdb_set (p := ⟨w10.heap.size, 1, none⟩) (rdb_set (p := ⟨w10.heap.size, 0, none⟩) (r_l_11.out) (fun g h => by have h1 := lr_l.out g h; have h2 := hr_l.out g h; show g ≠ w10.heap.size; omega) _) (fun g h => by have h1 := lr_l.out g h; have h2 := hr_l.out g h; show g ≠ w10.heap.size; omega) _) (fun g h => by have h1 := lr_l.out g h; have h2 := hr_l.out g h; show g ≠ w10.heap.size; omega) _) (fun g h => by have h1 := lr_l.out g h; have h2 := hr_l.out g h; show g ≠ w2.heap.size; omega) _) (fun g h => by have h1 := lr_l.out g h; have h2 := hr_l.out g h; show g ≠ w2.heap.size; omega) _) (fun g h => by have h1 := lr_l.out g h; have h2 := hr_l.out g h; show g ≠ w2.heap.size; omega) _), (rdr_set (p := ⟨w2.heap.size, 2, none⟩) (rdr_set (p := ⟨w2.heap.size, 1, none⟩) (rdr_set (p := ⟨w2.heap.size, 0, none⟩) (rdr_set (p := ⟨w10.heap.size, 2, none⟩) (rdr_set (p := ⟨w10.heap.size, 1, none⟩) (rdr_set (p := ⟨w10.heap.size, 0, none⟩) (R_11.out) (by show r < w10.heap.size; omega) _) (by show r < w10.heap.size; omega) _) (by show r < w10.heap.size; omega) _) (by show r < w2.heap.size; omega) _) (by show r < w2.heap.size; omega) _) (by show r < w2.heap.size; omega) _), (gs_set (p := ⟨w2.heap.size, 2, none⟩) (gs_set (p := ⟨w2.heap.size, 1, none⟩) (gs_set (p := ⟨w2.heap.size, 0, none⟩) (gs_set (p := ⟨w10.heap.size, 2, none⟩) (gs_set (p := ⟨w10.heap.size, 1, none⟩) (gs_set (p := ⟨w10.heap.size, 0, none⟩) (T_11.out) (.inr (by show w.heap.size ≤ w10.heap.size; omega)) _) (.inr (by show w.heap.size ≤ w10.heap.size; omega)) _) (.inr (by show w.heap.size ≤ w10.heap.size; omega)) _) (.inr (by show w.heap.size ≤ w2.heap.size; omega)) _) (.inr (by show w.heap.size ≤ w2.heap.size; omega)) _) (.inr (by show w.heap.size ≤ w2.heap.size; omega)) _), Nat.lt_of_lt_of_le (show w2.heap.size < w10.heap.size from hBG) (by simp; omega)⟩
              case measure => simp [intOf]; omega
            · have hok1 : (arr p m Z y).2.2.2.2 = false := by simpa using hok
              go_wp2_with fail
              go_roundw
              case rel => exact ⟨p, m, Z, k + 1, a, cap, by go_num, by omega, by first | omega | (have := arr_len1 p m Z y; omega), cell_set (p := ⟨w10.heap.size, 2, none⟩) (cell_set (p := ⟨w10.heap.size, 1, none⟩) (cell_set (p := ⟨w10.heap.size, 0, none⟩) (c_B0_11) (ne_blk (by omega))) (ne_blk (by omega))) (ne_blk (by omega)), cell_set (p := ⟨w10.heap.size, 2, none⟩) (cell_set (p := ⟨w10.heap.size, 1, none⟩) (cell_set (p := ⟨w10.heap.size, 0, none⟩) (c_B1_11) (ne_blk (by omega))) (ne_blk (by omega))) (ne_blk (by omega)), cell_set (p := ⟨w10.heap.size, 2, none⟩) (cell_set (p := ⟨w10.heap.size, 1, none⟩) (cell_set (p := ⟨w10.heap.size, 0, none⟩) (c_B2_11) (ne_blk (by omega))) (ne_blk (by omega))) (ne_blk (by omega)), (World.frozen?_setCell _ _ _ _).trans ((World.frozen?_setCell _ _ _ _).trans ((World.frozen?_setCell _ _ _ _).trans (f_B0_11))), (World.frozen?_setCell _ _ _ _).trans ((World.frozen?_setCell _ _ _ _).trans ((World.frozen?_setCell _ _ _ _).trans (f_B1_11))), (World.frozen?_setCell _ _ _ _).trans ((World.frozen?_setCell _ _ _ _).trans ((World.frozen?_setCell _ _ _ _).trans (f_B2_11))), cell_set (p := ⟨w10.heap.size, 2, none⟩) (cell_set (p := ⟨w10.heap.size, 1, none⟩) (cell_set (p := ⟨w10.heap.size, 0, none⟩) (c_R0_11) (ne_blk (by omega))) (ne_blk (by omega))) (ne_blk (by omega)), cell_set (p := ⟨w10.heap.size, 2, none⟩) (cell_set (p := ⟨w10.heap.size, 1, none⟩) (cell_set (p := ⟨w10.heap.size, 0, none⟩) (c_R1_11) (ne_blk (by omega))) (ne_blk (by omega))) (ne_blk (by omega)), cell_set (p := ⟨w10.heap.size, 2, none⟩) (cell_set (p := ⟨w10.heap.size, 1, none⟩) (cell_set (p := ⟨w10.heap.size, 0, none⟩) (c_R2_11) (ne_blk (by omega))) (ne_blk (by omega))) (ne_blk (by omega)), (World.frozen?_setCell _ _ _ _).trans ((World.frozen?_setCell _ _ _ _).trans ((World.frozen?_setCell _ _ _ _).trans (f_R0_11))), (World.frozen?_setCell _ _ _ _).trans ((World.frozen?_setCell _ _ _ _).trans ((World.frozen?_setCell _ _ _ _).trans (f_R1_11))), (World.frozen?_setCell _ _ _ _).trans ((World.frozen?_setCell _ _ _ _).trans ((World.frozen?_setCell _ _ _ _).trans (f_R2_11))), rdb_mono (rdb_set (p := ⟨w10.heap.size, 2, none⟩) (rdb_set (p := ⟨w10.heap.size, 1, none⟩) (rdb_set (p := ⟨w10.heap.size, 0, none⟩) (r_d_11.out) (fun g h => by have h1 := lr_d.out g h; have h2 := hr_d.out g h; have h9 := HNE.out g h; show g ≠ w10.heap.size; omega) _) (fun g h => by have h1 := lr_d.out g h; have h2 := hr_d.out g h; have h9 := HNE.out g h; show g ≠ w10.heap.size; omega) _) (fun g h => by have h1 := lr_d.out g h; have h2 := hr_d.out g h; have h9 := HNE.out g h; show g ≠ w10.heap.size; omega) _) (by omega), HNE.out, (rdb_set (p := ⟨w10.heap.size, 2, none⟩) (rdb_set (p := ⟨w10.heap.size, 1, none⟩) (rdb_set (p := ⟨w10.heap.size, 0, none⟩) (r_l_11.out) (fun g h => by have h1 := lr_l.out g h; have h2 := hr_l.out g h; show g ≠ w10.heap.size; omega) _) (fun g h => by have h1 := lr_l.out g h; have h2 := hr_l.out g h; show g ≠ w10.heap.size; omega) _) (fun g h => by have h1 := lr_l.out g h; have h2 := hr_l.out g h; show g ≠ w10.heap.size; omega) _), (rdr_set (p := ⟨w10.heap.size, 2, none⟩) (rdr_set (p := ⟨w10.heap.size, 1, none⟩) (rdr_set (p := ⟨w10.heap.size, 0, none⟩) (R_11.out) (by show r < w10.heap.size; omega) _) (by show r < w10.heap.size; omega) _) (by show r < w10.heap.size; omega) _), (gs_set (p := ⟨w10.heap.size, 2, none⟩) (gs_set (p := ⟨w10.heap.size, 1, none⟩) (gs_set (p := ⟨w10.heap.size, 0, none⟩) (T_11.out) (.inr (by show w.heap.size ≤ w10.heap.size; omega)) _) (.inr (by show w.heap.size ≤ w10.heap.size; omega)) _) (.inr (by show w.heap.size ≤ w10.heap.size; omega)) _), Nat.lt_of_lt_of_le (show w2.heap.size < w10.heap.size from hBG) (by simp; omega)⟩
              case measure => simp [intOf]; omega
          | have _way := way_1
            by_cases hok : (arr p m Z y).2.2.2.2 = true
            · have hok1 := hok
              go_wp2_with fail
              go_roundw
              case rel => exact ⟨(arr p m Z y).1, (arr p m Z y).2.1, (arr p m Z y).2.2.1, k + 1, a1, cap1, by go_num, by omega, by first | omega | (have := arr_len1 p m Z y; omega), cell_set (p := ⟨w2.heap.size, 2, none⟩) (cell_set (p := ⟨w2.heap.size, 1, none⟩) (World.cell?_setCell_same _ _ _ (cell_b (c_B0_11) (below_alloc _ _))) (ne_off (by decide))) (ne_off (by decide)), cell_set (p := ⟨w2.heap.size, 2, none⟩) (World.cell?_setCell_same _ _ _ (cell_set (p := ⟨w2.heap.size, 0, none⟩) (cell_b (c_B1_11) (below_alloc _ _)) (ne_off (by decide)))) (ne_off (by decide)), World.cell?_setCell_same _ _ _ (cell_set (p := ⟨w2.heap.size, 1, none⟩) (cell_set (p := ⟨w2.heap.size, 0, none⟩) (cell_b (c_B2_11) (below_alloc _ _)) (ne_off (by decide))) (ne_off (by decide))), (World.frozen?_setCell _ _ _ _).trans ((World.frozen?_setCell _ _ _ _).trans ((World.frozen?_setCell _ _ _ _).trans (frz_b (cell_lt (c_B0_11)) (f_B0_11) (below_alloc _ _)))), (World.frozen?_setCell _ _ _ _).trans ((World.frozen?_setCell _ _ _ _).trans ((World.frozen?_setCell _ _ _ _).trans (frz_b (cell_lt (c_B1_11)) (f_B1_11) (below_alloc _ _)))), (World.frozen?_setCell _ _ _ _).trans ((World.frozen?_setCell _ _ _ _).trans ((World.frozen?_setCell _ _ _ _).trans (frz_b (cell_lt (c_B2_11)) (f_B2_11) (below_alloc _ _)))), cell_set (p := ⟨w2.heap.size, 2, none⟩) (cell_set (p := ⟨w2.heap.size, 1, none⟩) (cell_set (p := ⟨w2.heap.size, 0, none⟩) (cell_b (c_R0_11) (below_alloc _ _)) (ne_blk (by omega))) (ne_blk (by omega))) (ne_blk (by omega)), cell_set (p := ⟨w2.heap.size, 2, none⟩) (cell_set (p := ⟨w2.heap.size, 1, none⟩) (cell_set (p := ⟨w2.heap.size, 0, none⟩) (cell_b (c_R1_11) (below_alloc _ _)) (ne_blk (by omega))) (ne_blk (by omega))) (ne_blk (by omega)), cell_set (p := ⟨w2.heap.size, 2, none⟩) (cell_set (p := ⟨w2.heap.size, 1, none⟩) (cell_set (p := ⟨w2.heap.size, 0, none⟩) (cell_b (c_R2_11) (below_alloc _ _)) (ne_blk (by omega))) (ne_blk (by omega))) (ne_blk (by omega)), (World.frozen?_setCell _ _ _ _).trans ((World.frozen?_setCell _ _ _ _).trans ((World.frozen?_setCell _ _ _ _).trans (frz_b (cell_lt (c_R0_11)) (f_R0_11) (below_alloc _ _)))), (World.frozen?_setCell _ _ _ _).trans ((World.frozen?_setCell _ _ _ _).trans ((World.frozen?_setCell _ _ _ _).trans (frz_b (cell_lt (c_R1_11)) (f_R1_11) (below_alloc _ _)))), (World.frozen?_setCell _ _ _ _).trans ((World.frozen?_setCell _ _ _ _).trans ((World.frozen?_setCell _ _ _ _).trans (frz_b (cell_lt (c_R2_11)) (f_R2_11) (below_alloc _ _)))), rdb_mono (rdb_set (p := ⟨w2.heap.size, 2, none⟩) (rdb_set (p := ⟨w2.heap.size, 1, none⟩) (rdb_set (p := ⟨w2.heap.size, 0, none⟩) (rdb_b (r_e_11.out) (below_alloc _ _)) (fun g h => by have h1 := lr_e.out g h; have h2 := hr_e.out g h; show g ≠ w2.heap.size; omega) _) (fun g h => by have h1 := lr_e.out g h; have h2 := hr_e.out g h; show g ≠ w2.heap.size; omega) _) (fun g h => by have h1 := lr_e.out g h; have h2 := hr_e.out g h; show g ≠ w2.heap.size; omega) _) (by omega), fun g h => by have h1 := lr_e.out g h; omega, (rdb_set (p := ⟨w2.heap.size, 2, none⟩) (rdb_set (p := ⟨w2.heap.size, 1, none⟩) (rdb_set (p := ⟨w2.heap.size, 0, none⟩) (rdb_b (r_l_11.out) (below_alloc _ _)) (fun g h => by have h1 := lr_l.out g h; have h2 := hr_l.out g h; show g ≠ w2.heap.size; omega) _) (fun g h => by have h1 := lr_l.out g h; have h2 := hr_l.out g h; show g ≠ w2.heap.size; omega) _) (fun g h => by have h1 := lr_l.out g h; have h2 := hr_l.out g h; show g ≠ w2.heap.size; omega) _), (rdr_set (p := ⟨w2.heap.size, 2, none⟩) (rdr_set (p := ⟨w2.heap.size, 1, none⟩) (rdr_set (p := ⟨w2.heap.size, 0, none⟩) (rdr_b (R_11.out) (below_alloc _ _)) (by show r < w2.heap.size; omega) _) (by show r < w2.heap.size; omega) _) (by show r < w2.heap.size; omega) _), (gs_set (p := ⟨w2.heap.size, 2, none⟩) (gs_set (p := ⟨w2.heap.size, 1, none⟩) (gs_set (p := ⟨w2.heap.size, 0, none⟩) (gs_trans (T_11.out) (gs_b (below_alloc _ _))) (.inr (by show w.heap.size ≤ w2.heap.size; omega)) _) (.inr (by show w.heap.size ≤ w2.heap.size; omega)) _) (.inr (by show w.heap.size ≤ w2.heap.size; omega)) _), Nat.lt_of_lt_of_le (show w2.heap.size < w10.heap.size from hBG) (by simp; omega)⟩
              case measure => simp [intOf]; omega
            · have hok1 : (arr p m Z y).2.2.2.2 = false := by simpa using hok
              go_wp2_with fail
              go_roundw
              case rel => exact ⟨p, m, Z, k + 1, a, cap, by go_num, by omega, by first | omega | (have := arr_len1 p m Z y; omega), cell_b (c_B0_11) (below_alloc _ _), cell_b (c_B1_11) (below_alloc _ _), cell_b (c_B2_11) (below_alloc _ _), frz_b (cell_lt (c_B0_11)) (f_B0_11) (below_alloc _ _), frz_b (cell_lt (c_B1_11)) (f_B1_11) (below_alloc _ _), frz_b (cell_lt (c_B2_11)) (f_B2_11) (below_alloc _ _), cell_b (c_R0_11) (below_alloc _ _), cell_b (c_R1_11) (below_alloc _ _), cell_b (c_R2_11) (below_alloc _ _), frz_b (cell_lt (c_R0_11)) (f_R0_11) (below_alloc _ _), frz_b (cell_lt (c_R1_11)) (f_R1_11) (below_alloc _ _), frz_b (cell_lt (c_R2_11)) (f_R2_11) (below_alloc _ _), rdb_mono (rdb_b (r_d_11.out) (below_alloc _ _)) (by omega), HNE.out, (rdb_b (r_l_11.out) (below_alloc _ _)), (rdr_b (R_11.out) (below_alloc _ _)), (gs_trans (T_11.out) (gs_b (below_alloc _ _))), Nat.lt_of_lt_of_le (show w2.heap.size < w10.heap.size from hBG) (by simp; omega)⟩
              case measure => simp [intOf]; omega
    · clear r_l_10 lr_l hr_l
      have ac_B0_10 := fun o => cell_b (c_B0_10) (below_alloc _ o)
      have bc_B0_10 := fun o o1 => cell_b (ac_B0_10 o) (below_alloc _ o1)
      have ac_B1_10 := fun o => cell_b (c_B1_10) (below_alloc _ o)
      have bc_B1_10 := fun o o1 => cell_b (ac_B1_10 o) (below_alloc _ o1)
      have ac_B2_10 := fun o => cell_b (c_B2_10) (below_alloc _ o)
      have bc_B2_10 := fun o o1 => cell_b (ac_B2_10 o) (below_alloc _ o1)
      have ac_R0_10 := fun o => cell_b (c_R0_10) (below_alloc _ o)
      have bc_R0_10 := fun o o1 => cell_b (ac_R0_10 o) (below_alloc _ o1)
      have ac_R1_10 := fun o => cell_b (c_R1_10) (below_alloc _ o)
      have bc_R1_10 := fun o o1 => cell_b (ac_R1_10 o) (below_alloc _ o1)
      have ac_R2_10 := fun o => cell_b (c_R2_10) (below_alloc _ o)
      have bc_R2_10 := fun o o1 => cell_b (ac_R2_10 o) (below_alloc _ o1)
      have af_B0_10 := fun o => frz_b (cell_lt (c_B0_10)) (f_B0_10) (below_alloc _ o)
      have bf_B0_10 := fun o o1 => frz_b (cell_lt (ac_B0_10 o)) (af_B0_10 o) (below_alloc _ o1)
      have af_B1_10 := fun o => frz_b (cell_lt (c_B1_10)) (f_B1_10) (below_alloc _ o)
      have bf_B1_10 := fun o o1 => frz_b (cell_lt (ac_B1_10 o)) (af_B1_10 o) (below_alloc _ o1)
      have af_B2_10 := fun o => frz_b (cell_lt (c_B2_10)) (f_B2_10) (below_alloc _ o)
      have bf_B2_10 := fun o o1 => frz_b (cell_lt (ac_B2_10 o)) (af_B2_10 o) (below_alloc _ o1)
      have af_R0_10 := fun o => frz_b (cell_lt (c_R0_10)) (f_R0_10) (below_alloc _ o)
      have bf_R0_10 := fun o o1 => frz_b (cell_lt (ac_R0_10 o)) (af_R0_10 o) (below_alloc _ o1)
      have af_R1_10 := fun o => frz_b (cell_lt (c_R1_10)) (f_R1_10) (below_alloc _ o)
      have bf_R1_10 := fun o o1 => frz_b (cell_lt (ac_R1_10 o)) (af_R1_10 o) (below_alloc _ o1)
      have af_R2_10 := fun o => frz_b (cell_lt (c_R2_10)) (f_R2_10) (below_alloc _ o)
      have bf_R2_10 := fun o o1 => frz_b (cell_lt (ac_R2_10 o)) (af_R2_10 o) (below_alloc _ o1)
      go_wp2_with fail
      (with_reducible refine (S_pick _ r _ _ (R_10.out) (by omega) (by omega)).mono ?_)
      rintro e w11 ⟨x, rfl, hx0, hx1, hr1, hg⟩
      have c_B0_11 := cell_gs (c_B0_10) hg (by show w2.heap.size ≠ r; omega)
      have c_B1_11 := cell_gs (c_B1_10) hg (by show w2.heap.size ≠ r; omega)
      have c_B2_11 := cell_gs (c_B2_10) hg (by show w2.heap.size ≠ r; omega)
      have c_R0_11 := cell_gs (c_R0_10) hg (by show w.heap.size ≠ r; omega)
      have c_R1_11 := cell_gs (c_R1_10) hg (by show w.heap.size ≠ r; omega)
      have c_R2_11 := cell_gs (c_R2_10) hg (by show w.heap.size ≠ r; omega)
      have f_B0_11 := frz_gs (p := ⟨w2.heap.size, 0, none⟩) (cell_lt (c_B0_10)) (f_B0_10) hg (by show w2.heap.size ≠ r; omega)
      have f_B1_11 := frz_gs (p := ⟨w2.heap.size, 1, none⟩) (cell_lt (c_B1_10)) (f_B1_10) hg (by show w2.heap.size ≠ r; omega)
      have f_B2_11 := frz_gs (p := ⟨w2.heap.size, 2, none⟩) (cell_lt (c_B2_10)) (f_B2_10) hg (by show w2.heap.size ≠ r; omega)
      have f_R0_11 := frz_gs (p := ⟨w.heap.size, 0, none⟩) (cell_lt (c_R0_10)) (f_R0_10) hg (by show w.heap.size ≠ r; omega)
      have f_R1_11 := frz_gs (p := ⟨w.heap.size, 1, none⟩) (cell_lt (c_R1_10)) (f_R1_10) hg (by show w.heap.size ≠ r; omega)
      have f_R2_11 := frz_gs (p := ⟨w.heap.size, 2, none⟩) (cell_lt (c_R2_10)) (f_R2_10) hg (by show w.heap.size ≠ r; omega)
      have r_d_11 := Lib.hid (rdb_gs (r_d_10.out) hg (by omega))
      have R_11 := Lib.hid hr1
      have T_11 := Lib.hid (gs_trans (T_10.out) hg)
      have z_11 : w10.heap.size ≤ w11.heap.size := (by have := hg.size; (try simp at this); omega)
      have ac_B0_11 := fun o => cell_b (c_B0_11) (below_alloc _ o)
      have bc_B0_11 := fun o o1 => cell_b (ac_B0_11 o) (below_alloc _ o1)
      have ac_B1_11 := fun o => cell_b (c_B1_11) (below_alloc _ o)
      have bc_B1_11 := fun o o1 => cell_b (ac_B1_11 o) (below_alloc _ o1)
      have ac_B2_11 := fun o => cell_b (c_B2_11) (below_alloc _ o)
      have bc_B2_11 := fun o o1 => cell_b (ac_B2_11 o) (below_alloc _ o1)
      have ac_R0_11 := fun o => cell_b (c_R0_11) (below_alloc _ o)
      have bc_R0_11 := fun o o1 => cell_b (ac_R0_11 o) (below_alloc _ o1)
      have ac_R1_11 := fun o => cell_b (c_R1_11) (below_alloc _ o)
      have bc_R1_11 := fun o o1 => cell_b (ac_R1_11 o) (below_alloc _ o1)
      have ac_R2_11 := fun o => cell_b (c_R2_11) (below_alloc _ o)
      have bc_R2_11 := fun o o1 => cell_b (ac_R2_11 o) (below_alloc _ o1)
      have af_B0_11 := fun o => frz_b (cell_lt (c_B0_11)) (f_B0_11) (below_alloc _ o)
      have bf_B0_11 := fun o o1 => frz_b (cell_lt (ac_B0_11 o)) (af_B0_11 o) (below_alloc _ o1)
      have af_B1_11 := fun o => frz_b (cell_lt (c_B1_11)) (f_B1_11) (below_alloc _ o)
      have bf_B1_11 := fun o o1 => frz_b (cell_lt (ac_B1_11 o)) (af_B1_11 o) (below_alloc _ o1)
      have af_B2_11 := fun o => frz_b (cell_lt (c_B2_11)) (f_B2_11) (below_alloc _ o)
      have bf_B2_11 := fun o o1 => frz_b (cell_lt (ac_B2_11 o)) (af_B2_11 o) (below_alloc _ o1)
      have af_R0_11 := fun o => frz_b (cell_lt (c_R0_11)) (f_R0_11) (below_alloc _ o)
      have bf_R0_11 := fun o o1 => frz_b (cell_lt (ac_R0_11 o)) (af_R0_11 o) (below_alloc _ o1)
      have af_R1_11 := fun o => frz_b (cell_lt (c_R1_11)) (f_R1_11) (below_alloc _ o)
      have bf_R1_11 := fun o o1 => frz_b (cell_lt (ac_R1_11 o)) (af_R1_11 o) (below_alloc _ o1)
      have af_R2_11 := fun o => frz_b (cell_lt (c_R2_11)) (f_R2_11) (below_alloc _ o)
      have bf_R2_11 := fun o o1 => frz_b (cell_lt (ac_R2_11 o)) (af_R2_11 o) (below_alloc _ o1)
      clear hg c_B0_10 c_B1_10 c_B2_10 c_R0_10 c_R1_10 c_R2_10 f_B0_10 f_B1_10 f_B2_10 f_R0_10 f_R1_10 f_R2_10 r_d_10 hr1 R_10 T_10 ac_B0_10 bc_B0_10 ac_B1_10 bc_B1_10 ac_B2_10 bc_B2_10 ac_R0_10 bc_R0_10 ac_R1_10 bc_R1_10 ac_R2_10 bc_R2_10 af_B0_10 bf_B0_10 af_B1_10 bf_B1_10 af_B2_10 bf_B2_10 af_R0_10 bf_R0_10 af_R1_10 bf_R1_10 af_R2_10 bf_R2_10 hx1
      by_cases hx0 : x = 0
      · subst hx0
        go_wp2_with fail
        (with_reducible refine (S_num _ r _ [0, 7, 1] (N + 6 + 1) (rdr_b (R_11.out) (below_alloc _ _)) (by omega) (rdb_lit _ #[.int .i64 0, .int .i64 7, .int .i64 1] [0, 7, 1] rfl (r + 1) (w11.heap.size) 3 (by first | rfl | simp) rfl (by first | omega | (simp; omega))) (by decide) (by decide)).mono ?_)
        rintro e w12 ⟨y, rfl, hy, hr1, hg⟩
        have c_B0_12 := cell_gs (cell_b (c_B0_11) (below_alloc _ _)) hg (by show w2.heap.size ≠ r; omega)
        have c_B1_12 := cell_gs (cell_b (c_B1_11) (below_alloc _ _)) hg (by show w2.heap.size ≠ r; omega)
        have c_B2_12 := cell_gs (cell_b (c_B2_11) (below_alloc _ _)) hg (by show w2.heap.size ≠ r; omega)
        have c_R0_12 := cell_gs (cell_b (c_R0_11) (below_alloc _ _)) hg (by show w.heap.size ≠ r; omega)
        have c_R1_12 := cell_gs (cell_b (c_R1_11) (below_alloc _ _)) hg (by show w.heap.size ≠ r; omega)
        have c_R2_12 := cell_gs (cell_b (c_R2_11) (below_alloc _ _)) hg (by show w.heap.size ≠ r; omega)
        have f_B0_12 := frz_gs (p := ⟨w2.heap.size, 0, none⟩) (cell_lt (cell_b (c_B0_11) (below_alloc _ _))) (frz_b (cell_lt (c_B0_11)) (f_B0_11) (below_alloc _ _)) hg (by show w2.heap.size ≠ r; omega)
        have f_B1_12 := frz_gs (p := ⟨w2.heap.size, 1, none⟩) (cell_lt (cell_b (c_B1_11) (below_alloc _ _))) (frz_b (cell_lt (c_B1_11)) (f_B1_11) (below_alloc _ _)) hg (by show w2.heap.size ≠ r; omega)
        have f_B2_12 := frz_gs (p := ⟨w2.heap.size, 2, none⟩) (cell_lt (cell_b (c_B2_11) (below_alloc _ _))) (frz_b (cell_lt (c_B2_11)) (f_B2_11) (below_alloc _ _)) hg (by show w2.heap.size ≠ r; omega)
        have f_R0_12 := frz_gs (p := ⟨w.heap.size, 0, none⟩) (cell_lt (cell_b (c_R0_11) (below_alloc _ _))) (frz_b (cell_lt (c_R0_11)) (f_R0_11) (below_alloc _ _)) hg (by show w.heap.size ≠ r; omega)
        have f_R1_12 := frz_gs (p := ⟨w.heap.size, 1, none⟩) (cell_lt (cell_b (c_R1_11) (below_alloc _ _))) (frz_b (cell_lt (c_R1_11)) (f_R1_11) (below_alloc _ _)) hg (by show w.heap.size ≠ r; omega)
        have f_R2_12 := frz_gs (p := ⟨w.heap.size, 2, none⟩) (cell_lt (cell_b (c_R2_11) (below_alloc _ _))) (frz_b (cell_lt (c_R2_11)) (f_R2_11) (below_alloc _ _)) hg (by show w.heap.size ≠ r; omega)
        have r_d_12 := Lib.hid (rdb_gs (rdb_b (r_d_11.out) (below_alloc _ _)) hg (by omega))
        have R_12 := Lib.hid hr1
        have T_12 := Lib.hid (gs_trans (gs_trans (T_11.out) (gs_b (below_alloc _ _))) hg)
        have z_12 : w11.heap.size + 1 ≤ w12.heap.size := (by have := hg.size; (try simp at this); omega)
        have ac_B0_12 := fun o => cell_b (c_B0_12) (below_alloc _ o)
        have bc_B0_12 := fun o o1 => cell_b (ac_B0_12 o) (below_alloc _ o1)
        have ac_B1_12 := fun o => cell_b (c_B1_12) (below_alloc _ o)
        have bc_B1_12 := fun o o1 => cell_b (ac_B1_12 o) (below_alloc _ o1)
        have ac_B2_12 := fun o => cell_b (c_B2_12) (below_alloc _ o)
        have bc_B2_12 := fun o o1 => cell_b (ac_B2_12 o) (below_alloc _ o1)
        have ac_R0_12 := fun o => cell_b (c_R0_12) (below_alloc _ o)
        have bc_R0_12 := fun o o1 => cell_b (ac_R0_12 o) (below_alloc _ o1)
        have ac_R1_12 := fun o => cell_b (c_R1_12) (below_alloc _ o)
        have bc_R1_12 := fun o o1 => cell_b (ac_R1_12 o) (below_alloc _ o1)
        have ac_R2_12 := fun o => cell_b (c_R2_12) (below_alloc _ o)
        have bc_R2_12 := fun o o1 => cell_b (ac_R2_12 o) (below_alloc _ o1)
        have af_B0_12 := fun o => frz_b (cell_lt (c_B0_12)) (f_B0_12) (below_alloc _ o)
        have bf_B0_12 := fun o o1 => frz_b (cell_lt (ac_B0_12 o)) (af_B0_12 o) (below_alloc _ o1)
        have af_B1_12 := fun o => frz_b (cell_lt (c_B1_12)) (f_B1_12) (below_alloc _ o)
        have bf_B1_12 := fun o o1 => frz_b (cell_lt (ac_B1_12 o)) (af_B1_12 o) (below_alloc _ o1)
        have af_B2_12 := fun o => frz_b (cell_lt (c_B2_12)) (f_B2_12) (below_alloc _ o)
        have bf_B2_12 := fun o o1 => frz_b (cell_lt (ac_B2_12 o)) (af_B2_12 o) (below_alloc _ o1)
        have af_R0_12 := fun o => frz_b (cell_lt (c_R0_12)) (f_R0_12) (below_alloc _ o)
        have bf_R0_12 := fun o o1 => frz_b (cell_lt (ac_R0_12 o)) (af_R0_12 o) (below_alloc _ o1)
        have af_R1_12 := fun o => frz_b (cell_lt (c_R1_12)) (f_R1_12) (below_alloc _ o)
        have bf_R1_12 := fun o o1 => frz_b (cell_lt (ac_R1_12 o)) (af_R1_12 o) (below_alloc _ o1)
        have af_R2_12 := fun o => frz_b (cell_lt (c_R2_12)) (f_R2_12) (below_alloc _ o)
        have bf_R2_12 := fun o o1 => frz_b (cell_lt (ac_R2_12 o)) (af_R2_12 o) (below_alloc _ o1)
        clear hg c_B0_11 c_B1_11 c_B2_11 c_R0_11 c_R1_11 c_R2_11 f_B0_11 f_B1_11 f_B2_11 f_R0_11 f_R1_11 f_R2_11 r_d_11 hr1 R_11 T_11 ac_B0_11 bc_B0_11 ac_B1_11 bc_B1_11 ac_B2_11 bc_B2_11 ac_R0_11 bc_R0_11 ac_R1_11 bc_R1_11 ac_R2_11 bc_R2_11 af_B0_11 bf_B0_11 af_B1_11 bf_B1_11 af_B2_11 bf_B2_11 af_R0_11 bf_R0_11 af_R1_11 bf_R1_11 af_R2_11 bf_R2_11 hy
        go_wp2_with fail
        refine bodyPost_ret (v := .agg #[.int .i64 y, .int .i64 m, .slice a Z.length cap]) (by simp [results, Try.results44, go_sem, c_R0_12, c_R1_12, c_R2_12]) rfl ⟨y, m, Z, a, cap, rfl, by omega, rdb_mono (rdb_set (p := ⟨w.heap.size, 2, none⟩) (rdb_set (p := ⟨w.heap.size, 1, none⟩) (rdb_set (p := ⟨w.heap.size, 0, none⟩) (rdb_set (p := ⟨w2.heap.size, 0, none⟩) (r_d_12.out) (fun g h => by have h1 := lr_d.out g h; have h2 := hr_d.out g h; have h9 := HNE.out g h; show g ≠ w2.heap.size; omega) _) (fun g h => by have h1 := lr_d.out g h; have h2 := hr_d.out g h; have h9 := HNE.out g h; show g ≠ w.heap.size; omega) _) (fun g h => by have h1 := lr_d.out g h; have h2 := hr_d.out g h; have h9 := HNE.out g h; show g ≠ w.heap.size; omega) _) (fun g h => by have h1 := lr_d.out g h; have h2 := hr_d.out g h; have h9 := HNE.out g h; show g ≠ w.heap.size; omega) _) (by omega), rdr_mono (rdr_set (p := ⟨w.heap.size, 2, none⟩) (rdr_set (p := ⟨w.heap.size, 1, none⟩) (rdr_set (p := ⟨w.heap.size, 0, none⟩) (rdr_set (p := ⟨w2.heap.size, 0, none⟩) (R_12.out) (by show r < w2.heap.size; omega) _) (by show r < w.heap.size; omega) _) (by show r < w.heap.size; omega) _) (by show r < w.heap.size; omega) _) (by omega), (gs_set (p := ⟨w.heap.size, 2, none⟩) (gs_set (p := ⟨w.heap.size, 1, none⟩) (gs_set (p := ⟨w.heap.size, 0, none⟩) (gs_set (p := ⟨w2.heap.size, 0, none⟩) (T_12.out) (.inr (by show w.heap.size ≤ w2.heap.size; omega)) _) (.inr (by show w.heap.size ≤ w.heap.size; omega)) _) (.inr (by show w.heap.size ≤ w.heap.size; omega)) _) (.inr (by show w.heap.size ≤ w.heap.size; omega)) _)⟩
      by_cases hx1 : x = 1
      · subst hx1
        have tok12 : True := trivial
        go_wp2_with (first | (at_builtin; have _t := tok12; refine wpList_append_rd_w (by rfl) _ _ 24 rfl (w11.heap.size) i0 Try.underlying24 hi hz0 hz1 hz2 (.slice (some ⟨w11.heap.size, 0, none⟩) 0 0) (0) ([]) rfl (World.ownsRow_made _ #[] 0 (by first | rfl | simp) (by unfold maxLen; omega) rfl) _ _ _ (Z) rfl (rdb_rd (rdb_b (r_d_11.out) (below_alloc _ _))) rfl (by unfold maxLen; omega) (by omega) (by first | omega | (simp; done) | (simp; omega)) ?_; intro v12 w12 hown hgr hloc; clear tok12; have ho : w12.ownsRow (w11.heap.size) 3 1 v12 ((Z).length) (ints (Z)) := (by rw [Nat.zero_add, List.nil_append] at hown; exact hown); obtain ⟨a1, cap1, hv⟩ := own_shape ho; subst hv; have c_B0_12 := cell_gr (cell_b (c_B0_11) (below_alloc _ _)) hgr (fun g h => by simp only [Value.ownBlock, Option.some.injEq] at h; show w2.heap.size ≠ g; omega); have c_B1_12 := cell_gr (cell_b (c_B1_11) (below_alloc _ _)) hgr (fun g h => by simp only [Value.ownBlock, Option.some.injEq] at h; show w2.heap.size ≠ g; omega); have c_B2_12 := cell_gr (cell_b (c_B2_11) (below_alloc _ _)) hgr (fun g h => by simp only [Value.ownBlock, Option.some.injEq] at h; show w2.heap.size ≠ g; omega); have c_R0_12 := cell_gr (cell_b (c_R0_11) (below_alloc _ _)) hgr (fun g h => by simp only [Value.ownBlock, Option.some.injEq] at h; show w.heap.size ≠ g; omega); have c_R1_12 := cell_gr (cell_b (c_R1_11) (below_alloc _ _)) hgr (fun g h => by simp only [Value.ownBlock, Option.some.injEq] at h; show w.heap.size ≠ g; omega); have c_R2_12 := cell_gr (cell_b (c_R2_11) (below_alloc _ _)) hgr (fun g h => by simp only [Value.ownBlock, Option.some.injEq] at h; show w.heap.size ≠ g; omega); have f_B0_12 := (frz_gr (p := ⟨w2.heap.size, 0, none⟩) (cell_lt (cell_b (c_B0_11) (below_alloc _ _))) hgr (fun g h => by simp only [Value.ownBlock, Option.some.injEq] at h; show w2.heap.size ≠ g; omega)).trans (frz_b (cell_lt (c_B0_11)) (f_B0_11) (below_alloc _ _)); have f_B1_12 := (frz_gr (p := ⟨w2.heap.size, 1, none⟩) (cell_lt (cell_b (c_B1_11) (below_alloc _ _))) hgr (fun g h => by simp only [Value.ownBlock, Option.some.injEq] at h; show w2.heap.size ≠ g; omega)).trans (frz_b (cell_lt (c_B1_11)) (f_B1_11) (below_alloc _ _)); have f_B2_12 := (frz_gr (p := ⟨w2.heap.size, 2, none⟩) (cell_lt (cell_b (c_B2_11) (below_alloc _ _))) hgr (fun g h => by simp only [Value.ownBlock, Option.some.injEq] at h; show w2.heap.size ≠ g; omega)).trans (frz_b (cell_lt (c_B2_11)) (f_B2_11) (below_alloc _ _)); have f_R0_12 := (frz_gr (p := ⟨w.heap.size, 0, none⟩) (cell_lt (cell_b (c_R0_11) (below_alloc _ _))) hgr (fun g h => by simp only [Value.ownBlock, Option.some.injEq] at h; show w.heap.size ≠ g; omega)).trans (frz_b (cell_lt (c_R0_11)) (f_R0_11) (below_alloc _ _)); have f_R1_12 := (frz_gr (p := ⟨w.heap.size, 1, none⟩) (cell_lt (cell_b (c_R1_11) (below_alloc _ _))) hgr (fun g h => by simp only [Value.ownBlock, Option.some.injEq] at h; show w.heap.size ≠ g; omega)).trans (frz_b (cell_lt (c_R1_11)) (f_R1_11) (below_alloc _ _)); have f_R2_12 := (frz_gr (p := ⟨w.heap.size, 2, none⟩) (cell_lt (cell_b (c_R2_11) (below_alloc _ _))) hgr (fun g h => by simp only [Value.ownBlock, Option.some.injEq] at h; show w.heap.size ≠ g; omega)).trans (frz_b (cell_lt (c_R2_11)) (f_R2_11) (below_alloc _ _)); have r_d_12 := Lib.hid (rdb_gr (rdb_b (r_d_11.out) (below_alloc _ _)) hgr (fun g g' h h' => by simp only [Value.ownBlock, Option.some.injEq] at h; have h3 := lr_d.out g' h'; have h4 := hr_d.out g' h'; omega)); have R_12 := Lib.hid (rdr_gr (rdr_b (R_11.out) (below_alloc _ _)) hgr (fun g h => by simp only [Value.ownBlock, Option.some.injEq] at h; omega)); have T_12 := Lib.hid (gs_row (gs_trans (T_11.out) (gs_b (below_alloc _ _))) hgr (fun g h => by simp only [Value.ownBlock, Option.some.injEq] at h; omega)); have z_12 : w11.heap.size + 1 ≤ w12.heap.size := (by have := hgr.size; (try simp at this); omega); have o_e_12 := Lib.hid ho; have lo_e := Lib.hid (own_lo o_e_12.out); have hi_e := Lib.hid (own_hi o_e_12.out); have ac_B0_12 := fun o => cell_b (c_B0_12) (below_alloc _ o); have bc_B0_12 := fun o o1 => cell_b (ac_B0_12 o) (below_alloc _ o1); have ac_B1_12 := fun o => cell_b (c_B1_12) (below_alloc _ o); have bc_B1_12 := fun o o1 => cell_b (ac_B1_12 o) (below_alloc _ o1); have ac_B2_12 := fun o => cell_b (c_B2_12) (below_alloc _ o); have bc_B2_12 := fun o o1 => cell_b (ac_B2_12 o) (below_alloc _ o1); have ac_R0_12 := fun o => cell_b (c_R0_12) (below_alloc _ o); have bc_R0_12 := fun o o1 => cell_b (ac_R0_12 o) (below_alloc _ o1); have ac_R1_12 := fun o => cell_b (c_R1_12) (below_alloc _ o); have bc_R1_12 := fun o o1 => cell_b (ac_R1_12 o) (below_alloc _ o1); have ac_R2_12 := fun o => cell_b (c_R2_12) (below_alloc _ o); have bc_R2_12 := fun o o1 => cell_b (ac_R2_12 o) (below_alloc _ o1); have af_B0_12 := fun o => frz_b (cell_lt (c_B0_12)) (f_B0_12) (below_alloc _ o); have bf_B0_12 := fun o o1 => frz_b (cell_lt (ac_B0_12 o)) (af_B0_12 o) (below_alloc _ o1); have af_B1_12 := fun o => frz_b (cell_lt (c_B1_12)) (f_B1_12) (below_alloc _ o); have bf_B1_12 := fun o o1 => frz_b (cell_lt (ac_B1_12 o)) (af_B1_12 o) (below_alloc _ o1); have af_B2_12 := fun o => frz_b (cell_lt (c_B2_12)) (f_B2_12) (below_alloc _ o); have bf_B2_12 := fun o o1 => frz_b (cell_lt (ac_B2_12 o)) (af_B2_12 o) (below_alloc _ o1); have af_R0_12 := fun o => frz_b (cell_lt (c_R0_12)) (f_R0_12) (below_alloc _ o); have bf_R0_12 := fun o o1 => frz_b (cell_lt (ac_R0_12 o)) (af_R0_12 o) (below_alloc _ o1); have af_R1_12 := fun o => frz_b (cell_lt (c_R1_12)) (f_R1_12) (below_alloc _ o); have bf_R1_12 := fun o o1 => frz_b (cell_lt (ac_R1_12 o)) (af_R1_12 o) (below_alloc _ o1); have af_R2_12 := fun o => frz_b (cell_lt (c_R2_12)) (f_R2_12) (below_alloc _ o); have bf_R2_12 := fun o o1 => frz_b (cell_lt (ac_R2_12 o)) (af_R2_12 o) (below_alloc _ o1); clear hgr c_B0_11 c_B1_11 c_B2_11 c_R0_11 c_R1_11 c_R2_11 f_B0_11 f_B1_11 f_B2_11 f_R0_11 f_R1_11 f_R2_11 r_d_11 R_11 T_11 ac_B0_11 bc_B0_11 ac_B1_11 bc_B1_11 ac_B2_11 bc_B2_11 ac_R0_11 bc_R0_11 ac_R1_11 bc_R1_11 ac_R2_11 bc_R2_11 af_B0_11 bf_B0_11 af_B1_11 bf_B1_11 af_B2_11 bf_B2_11 af_R0_11 bf_R0_11 af_R1_11 bf_R1_11 af_R2_11 bf_R2_11 hown ho hloc))
        go_wp2_with fail
        (with_reducible refine (S_pick _ r _ _ (R_12.out) (by omega) (by omega)).mono ?_)
        rintro e w13 ⟨y, rfl, hy0, hy1, hr1, hg⟩
        have c_B0_13 := cell_gs (c_B0_12) hg (by show w2.heap.size ≠ r; omega)
        have c_B1_13 := cell_gs (c_B1_12) hg (by show w2.heap.size ≠ r; omega)
        have c_B2_13 := cell_gs (c_B2_12) hg (by show w2.heap.size ≠ r; omega)
        have c_R0_13 := cell_gs (c_R0_12) hg (by show w.heap.size ≠ r; omega)
        have c_R1_13 := cell_gs (c_R1_12) hg (by show w.heap.size ≠ r; omega)
        have c_R2_13 := cell_gs (c_R2_12) hg (by show w.heap.size ≠ r; omega)
        have f_B0_13 := frz_gs (p := ⟨w2.heap.size, 0, none⟩) (cell_lt (c_B0_12)) (f_B0_12) hg (by show w2.heap.size ≠ r; omega)
        have f_B1_13 := frz_gs (p := ⟨w2.heap.size, 1, none⟩) (cell_lt (c_B1_12)) (f_B1_12) hg (by show w2.heap.size ≠ r; omega)
        have f_B2_13 := frz_gs (p := ⟨w2.heap.size, 2, none⟩) (cell_lt (c_B2_12)) (f_B2_12) hg (by show w2.heap.size ≠ r; omega)
        have f_R0_13 := frz_gs (p := ⟨w.heap.size, 0, none⟩) (cell_lt (c_R0_12)) (f_R0_12) hg (by show w.heap.size ≠ r; omega)
        have f_R1_13 := frz_gs (p := ⟨w.heap.size, 1, none⟩) (cell_lt (c_R1_12)) (f_R1_12) hg (by show w.heap.size ≠ r; omega)
        have f_R2_13 := frz_gs (p := ⟨w.heap.size, 2, none⟩) (cell_lt (c_R2_12)) (f_R2_12) hg (by show w.heap.size ≠ r; omega)
        have o_e_13 := Lib.hid (own_gr (o_e_12.out) hg (fun g g' h h' => by injection h with h; have h3 := lo_e.out g' h'; omega))
        have r_d_13 := Lib.hid (rdb_gs (r_d_12.out) hg (by omega))
        have R_13 := Lib.hid hr1
        have T_13 := Lib.hid (gs_trans (T_12.out) hg)
        have z_13 : w12.heap.size ≤ w13.heap.size := (by have := hg.size; (try simp at this); omega)
        have ac_B0_13 := fun o => cell_b (c_B0_13) (below_alloc _ o)
        have bc_B0_13 := fun o o1 => cell_b (ac_B0_13 o) (below_alloc _ o1)
        have ac_B1_13 := fun o => cell_b (c_B1_13) (below_alloc _ o)
        have bc_B1_13 := fun o o1 => cell_b (ac_B1_13 o) (below_alloc _ o1)
        have ac_B2_13 := fun o => cell_b (c_B2_13) (below_alloc _ o)
        have bc_B2_13 := fun o o1 => cell_b (ac_B2_13 o) (below_alloc _ o1)
        have ac_R0_13 := fun o => cell_b (c_R0_13) (below_alloc _ o)
        have bc_R0_13 := fun o o1 => cell_b (ac_R0_13 o) (below_alloc _ o1)
        have ac_R1_13 := fun o => cell_b (c_R1_13) (below_alloc _ o)
        have bc_R1_13 := fun o o1 => cell_b (ac_R1_13 o) (below_alloc _ o1)
        have ac_R2_13 := fun o => cell_b (c_R2_13) (below_alloc _ o)
        have bc_R2_13 := fun o o1 => cell_b (ac_R2_13 o) (below_alloc _ o1)
        have af_B0_13 := fun o => frz_b (cell_lt (c_B0_13)) (f_B0_13) (below_alloc _ o)
        have bf_B0_13 := fun o o1 => frz_b (cell_lt (ac_B0_13 o)) (af_B0_13 o) (below_alloc _ o1)
        have af_B1_13 := fun o => frz_b (cell_lt (c_B1_13)) (f_B1_13) (below_alloc _ o)
        have bf_B1_13 := fun o o1 => frz_b (cell_lt (ac_B1_13 o)) (af_B1_13 o) (below_alloc _ o1)
        have af_B2_13 := fun o => frz_b (cell_lt (c_B2_13)) (f_B2_13) (below_alloc _ o)
        have bf_B2_13 := fun o o1 => frz_b (cell_lt (ac_B2_13 o)) (af_B2_13 o) (below_alloc _ o1)
        have af_R0_13 := fun o => frz_b (cell_lt (c_R0_13)) (f_R0_13) (below_alloc _ o)
        have bf_R0_13 := fun o o1 => frz_b (cell_lt (ac_R0_13 o)) (af_R0_13 o) (below_alloc _ o1)
        have af_R1_13 := fun o => frz_b (cell_lt (c_R1_13)) (f_R1_13) (below_alloc _ o)
        have bf_R1_13 := fun o o1 => frz_b (cell_lt (ac_R1_13 o)) (af_R1_13 o) (below_alloc _ o1)
        have af_R2_13 := fun o => frz_b (cell_lt (c_R2_13)) (f_R2_13) (below_alloc _ o)
        have bf_R2_13 := fun o o1 => frz_b (cell_lt (ac_R2_13 o)) (af_R2_13 o) (below_alloc _ o1)
        clear hg c_B0_12 c_B1_12 c_B2_12 c_R0_12 c_R1_12 c_R2_12 f_B0_12 f_B1_12 f_B2_12 f_R0_12 f_R1_12 f_R2_12 o_e_12 r_d_12 hr1 R_12 T_12 ac_B0_12 bc_B0_12 ac_B1_12 bc_B1_12 ac_B2_12 bc_B2_12 ac_R0_12 bc_R0_12 ac_R1_12 bc_R1_12 ac_R2_12 bc_R2_12 af_B0_12 bf_B0_12 af_B1_12 bf_B1_12 af_B2_12 bf_B2_12 af_R0_12 bf_R0_12 af_R1_12 bf_R1_12 af_R2_12 bf_R2_12 hy1
        have tok14 : True := trivial
        go_wp2_with (first | (at_builtin; have _t := tok14; refine wpList_append_own_at _ rfl _ _ 24 rfl (w11.heap.size) 3 i0 (.int .i64 0) 1 8 Try.underlying24 hi hz0 hz1 hz2 rfl (by decide) (.slice a1 ((Z).length) cap1) (Z.length) (ints (Z)) rfl (own_below (o_e_13.out) (below_alloc _ _)) ⟨w13.heap.size, 0, none⟩ 1 1 [.int .i64 (y)] rfl rfl (cell_one_new _ _ _) (ints_oneCell .i64 [y]) (by unfold maxLen; omega) (by omega) (by first | omega | (simp; done) | (simp; omega)) ?_; intro v14 w14 hown hgr _ hloc; clear tok14; have ho : w14.ownsRow (w11.heap.size) 3 1 v14 (Z.length + 1) (ints (Z ++ [y])) := (by rw [ints_append]; exact hown); obtain ⟨a2, cap2, hv⟩ := own_shape ho; subst hv; have iv_f : Hid (∀ g, (Value.slice a2 (Z.length + 1) cap2).ownBlock = some g → (w11.heap.size ≤ g ∧ g < w12.heap.size) ∨ (w13.heap.size + 1 ≤ g ∧ g < w14.heap.size)) := Lib.hid (fun g h => by have h9 := hgr.size; have h7 := own_hi ho g h; rcases hloc with h8 | h8 <;> rw [h8] at h <;> first | (have h1 := lo_e.out g h; have h2 := hi_e.out g h; (try simp at h9); omega) | (injection h with h; (try simp at h9); (try simp at h); omega)); have c_B0_14 := cell_gr (cell_b (c_B0_13) (below_alloc _ _)) hgr (fun g h => by have h1 := lo_e.out g h; have h2 := hi_e.out g h; show w2.heap.size ≠ g; omega); have c_B1_14 := cell_gr (cell_b (c_B1_13) (below_alloc _ _)) hgr (fun g h => by have h1 := lo_e.out g h; have h2 := hi_e.out g h; show w2.heap.size ≠ g; omega); have c_B2_14 := cell_gr (cell_b (c_B2_13) (below_alloc _ _)) hgr (fun g h => by have h1 := lo_e.out g h; have h2 := hi_e.out g h; show w2.heap.size ≠ g; omega); have c_R0_14 := cell_gr (cell_b (c_R0_13) (below_alloc _ _)) hgr (fun g h => by have h1 := lo_e.out g h; have h2 := hi_e.out g h; show w.heap.size ≠ g; omega); have c_R1_14 := cell_gr (cell_b (c_R1_13) (below_alloc _ _)) hgr (fun g h => by have h1 := lo_e.out g h; have h2 := hi_e.out g h; show w.heap.size ≠ g; omega); have c_R2_14 := cell_gr (cell_b (c_R2_13) (below_alloc _ _)) hgr (fun g h => by have h1 := lo_e.out g h; have h2 := hi_e.out g h; show w.heap.size ≠ g; omega); have f_B0_14 := (frz_gr (p := ⟨w2.heap.size, 0, none⟩) (cell_lt (cell_b (c_B0_13) (below_alloc _ _))) hgr (fun g h => by have h1 := lo_e.out g h; have h2 := hi_e.out g h; show w2.heap.size ≠ g; omega)).trans (frz_b (cell_lt (c_B0_13)) (f_B0_13) (below_alloc _ _)); have f_B1_14 := (frz_gr (p := ⟨w2.heap.size, 1, none⟩) (cell_lt (cell_b (c_B1_13) (below_alloc _ _))) hgr (fun g h => by have h1 := lo_e.out g h; have h2 := hi_e.out g h; show w2.heap.size ≠ g; omega)).trans (frz_b (cell_lt (c_B1_13)) (f_B1_13) (below_alloc _ _)); have f_B2_14 := (frz_gr (p := ⟨w2.heap.size, 2, none⟩) (cell_lt (cell_b (c_B2_13) (below_alloc _ _))) hgr (fun g h => by have h1 := lo_e.out g h; have h2 := hi_e.out g h; show w2.heap.size ≠ g; omega)).trans (frz_b (cell_lt (c_B2_13)) (f_B2_13) (below_alloc _ _)); have f_R0_14 := (frz_gr (p := ⟨w.heap.size, 0, none⟩) (cell_lt (cell_b (c_R0_13) (below_alloc _ _))) hgr (fun g h => by have h1 := lo_e.out g h; have h2 := hi_e.out g h; show w.heap.size ≠ g; omega)).trans (frz_b (cell_lt (c_R0_13)) (f_R0_13) (below_alloc _ _)); have f_R1_14 := (frz_gr (p := ⟨w.heap.size, 1, none⟩) (cell_lt (cell_b (c_R1_13) (below_alloc _ _))) hgr (fun g h => by have h1 := lo_e.out g h; have h2 := hi_e.out g h; show w.heap.size ≠ g; omega)).trans (frz_b (cell_lt (c_R1_13)) (f_R1_13) (below_alloc _ _)); have f_R2_14 := (frz_gr (p := ⟨w.heap.size, 2, none⟩) (cell_lt (cell_b (c_R2_13) (below_alloc _ _))) hgr (fun g h => by have h1 := lo_e.out g h; have h2 := hi_e.out g h; show w.heap.size ≠ g; omega)).trans (frz_b (cell_lt (c_R2_13)) (f_R2_13) (below_alloc _ _)); have r_d_14 := Lib.hid (rdb_gr (rdb_b (r_d_13.out) (below_alloc _ _)) hgr (fun g g' h h' => by have h1 := lo_e.out g h; have h2 := hi_e.out g h; have h3 := lr_d.out g' h'; have h4 := hr_d.out g' h'; omega)); have R_14 := Lib.hid (rdr_gr (rdr_b (R_13.out) (below_alloc _ _)) hgr (fun g h => by have h1 := lo_e.out g h; have h2 := hi_e.out g h; omega)); have T_14 := Lib.hid (gs_row (gs_trans (T_13.out) (gs_b (below_alloc _ _))) hgr (fun g h => by have h1 := lo_e.out g h; have h2 := hi_e.out g h; omega)); have z_14 : w13.heap.size + 1 ≤ w14.heap.size := (by have := hgr.size; (try simp at this); omega); have o_f_14 := Lib.hid ho; have lo_f := Lib.hid (own_lo o_f_14.out); have hi_f := Lib.hid (own_hi o_f_14.out); have ac_B0_14 := fun o => cell_b (c_B0_14) (below_alloc _ o); have bc_B0_14 := fun o o1 => cell_b (ac_B0_14 o) (below_alloc _ o1); have ac_B1_14 := fun o => cell_b (c_B1_14) (below_alloc _ o); have bc_B1_14 := fun o o1 => cell_b (ac_B1_14 o) (below_alloc _ o1); have ac_B2_14 := fun o => cell_b (c_B2_14) (below_alloc _ o); have bc_B2_14 := fun o o1 => cell_b (ac_B2_14 o) (below_alloc _ o1); have ac_R0_14 := fun o => cell_b (c_R0_14) (below_alloc _ o); have bc_R0_14 := fun o o1 => cell_b (ac_R0_14 o) (below_alloc _ o1); have ac_R1_14 := fun o => cell_b (c_R1_14) (below_alloc _ o); have bc_R1_14 := fun o o1 => cell_b (ac_R1_14 o) (below_alloc _ o1); have ac_R2_14 := fun o => cell_b (c_R2_14) (below_alloc _ o); have bc_R2_14 := fun o o1 => cell_b (ac_R2_14 o) (below_alloc _ o1); have af_B0_14 := fun o => frz_b (cell_lt (c_B0_14)) (f_B0_14) (below_alloc _ o); have bf_B0_14 := fun o o1 => frz_b (cell_lt (ac_B0_14 o)) (af_B0_14 o) (below_alloc _ o1); have af_B1_14 := fun o => frz_b (cell_lt (c_B1_14)) (f_B1_14) (below_alloc _ o); have bf_B1_14 := fun o o1 => frz_b (cell_lt (ac_B1_14 o)) (af_B1_14 o) (below_alloc _ o1); have af_B2_14 := fun o => frz_b (cell_lt (c_B2_14)) (f_B2_14) (below_alloc _ o); have bf_B2_14 := fun o o1 => frz_b (cell_lt (ac_B2_14 o)) (af_B2_14 o) (below_alloc _ o1); have af_R0_14 := fun o => frz_b (cell_lt (c_R0_14)) (f_R0_14) (below_alloc _ o); have bf_R0_14 := fun o o1 => frz_b (cell_lt (ac_R0_14 o)) (af_R0_14 o) (below_alloc _ o1); have af_R1_14 := fun o => frz_b (cell_lt (c_R1_14)) (f_R1_14) (below_alloc _ o); have bf_R1_14 := fun o o1 => frz_b (cell_lt (ac_R1_14 o)) (af_R1_14 o) (below_alloc _ o1); have af_R2_14 := fun o => frz_b (cell_lt (c_R2_14)) (f_R2_14) (below_alloc _ o); have bf_R2_14 := fun o o1 => frz_b (cell_lt (ac_R2_14 o)) (af_R2_14 o) (below_alloc _ o1); clear hgr c_B0_13 c_B1_13 c_B2_13 c_R0_13 c_R1_13 c_R2_13 f_B0_13 f_B1_13 f_B2_13 f_R0_13 f_R1_13 f_R2_13 r_d_13 R_13 T_13 ac_B0_13 bc_B0_13 ac_B1_13 bc_B1_13 ac_B2_13 bc_B2_13 ac_R0_13 bc_R0_13 ac_R1_13 bc_R1_13 ac_R2_13 bc_R2_13 af_B0_13 bf_B0_13 af_B1_13 bf_B1_13 af_B2_13 bf_B2_13 af_R0_13 bf_R0_13 af_R1_13 bf_R1_13 af_R2_13 bf_R2_13 hown ho hloc o_e_13 lo_e hi_e))
        have e9 : (Z ++ [y]).length = Z.length + 1 := by simp
        go_wp2_with fail
        refine bodyPost_ret (v := .agg #[.int .i64 p, .int .i64 m, .slice a2 (Z.length + 1) cap2]) (by simp [results, Try.results44, go_sem, c_R0_14, c_R1_14, c_R2_14]) rfl ⟨p, m, Z ++ [y], a2, cap2, by rw [e9], by omega, ?_, rdr_mono (rdr_set (p := ⟨w.heap.size, 2, none⟩) (rdr_set (p := ⟨w.heap.size, 1, none⟩) (rdr_set (p := ⟨w.heap.size, 0, none⟩) (rdr_set (p := ⟨w2.heap.size, 2, none⟩) (R_14.out) (by show r < w2.heap.size; omega) _) (by show r < w.heap.size; omega) _) (by show r < w.heap.size; omega) _) (by show r < w.heap.size; omega) _) (by omega), (gs_set (p := ⟨w.heap.size, 2, none⟩) (gs_set (p := ⟨w.heap.size, 1, none⟩) (gs_set (p := ⟨w.heap.size, 0, none⟩) (gs_set (p := ⟨w2.heap.size, 2, none⟩) (T_14.out) (.inr (by show w.heap.size ≤ w2.heap.size; omega)) _) (.inr (by show w.heap.size ≤ w.heap.size; omega)) _) (.inr (by show w.heap.size ≤ w.heap.size; omega)) _) (.inr (by show w.heap.size ≤ w.heap.size; omega)) _)⟩
        rw [e9]
        exact rdb_mono (ow_rdb (own_set (p := ⟨w.heap.size, 2, none⟩) (own_set (p := ⟨w.heap.size, 1, none⟩) (own_set (p := ⟨w.heap.size, 0, none⟩) (own_set (p := ⟨w2.heap.size, 2, none⟩) ((ow_eq o_f_14.out rfl e9.symm)) (fun g h => by have h1 := lo_f.out g h; have h2 := hi_f.out g h; have h5 := iv_f.out g h; show g ≠ w2.heap.size; omega) _) (fun g h => by have h1 := lo_f.out g h; have h2 := hi_f.out g h; have h5 := iv_f.out g h; show g ≠ w.heap.size; omega) _) (fun g h => by have h1 := lo_f.out g h; have h2 := hi_f.out g h; have h5 := iv_f.out g h; show g ≠ w.heap.size; omega) _) (fun g h => by have h1 := lo_f.out g h; have h2 := hi_f.out g h; have h5 := iv_f.out g h; show g ≠ w.heap.size; omega) _)) (by omega)
      by_cases hx2 : x = 2
      · subst hx2
        go_wp2_with fail
        (with_reducible refine (S_num _ r _ [9999, -1, 10000] (N + 6 + 1) (rdr_b (R_11.out) (below_alloc _ _)) (by omega) (rdb_lit _ #[.int .i64 9999, .int .i64 (-1), .int .i64 10000] [9999, -1, 10000] rfl (r + 1) (w11.heap.size) 3 (by first | rfl | simp) rfl (by first | omega | (simp; omega))) (by decide) (by decide)).mono ?_)
        rintro e w12 ⟨y, rfl, hy, hr1, hg⟩
        have c_B0_12 := cell_gs (cell_b (c_B0_11) (below_alloc _ _)) hg (by show w2.heap.size ≠ r; omega)
        have c_B1_12 := cell_gs (cell_b (c_B1_11) (below_alloc _ _)) hg (by show w2.heap.size ≠ r; omega)
        have c_B2_12 := cell_gs (cell_b (c_B2_11) (below_alloc _ _)) hg (by show w2.heap.size ≠ r; omega)
        have c_R0_12 := cell_gs (cell_b (c_R0_11) (below_alloc _ _)) hg (by show w.heap.size ≠ r; omega)
        have c_R1_12 := cell_gs (cell_b (c_R1_11) (below_alloc _ _)) hg (by show w.heap.size ≠ r; omega)
        have c_R2_12 := cell_gs (cell_b (c_R2_11) (below_alloc _ _)) hg (by show w.heap.size ≠ r; omega)
        have f_B0_12 := frz_gs (p := ⟨w2.heap.size, 0, none⟩) (cell_lt (cell_b (c_B0_11) (below_alloc _ _))) (frz_b (cell_lt (c_B0_11)) (f_B0_11) (below_alloc _ _)) hg (by show w2.heap.size ≠ r; omega)
        have f_B1_12 := frz_gs (p := ⟨w2.heap.size, 1, none⟩) (cell_lt (cell_b (c_B1_11) (below_alloc _ _))) (frz_b (cell_lt (c_B1_11)) (f_B1_11) (below_alloc _ _)) hg (by show w2.heap.size ≠ r; omega)
        have f_B2_12 := frz_gs (p := ⟨w2.heap.size, 2, none⟩) (cell_lt (cell_b (c_B2_11) (below_alloc _ _))) (frz_b (cell_lt (c_B2_11)) (f_B2_11) (below_alloc _ _)) hg (by show w2.heap.size ≠ r; omega)
        have f_R0_12 := frz_gs (p := ⟨w.heap.size, 0, none⟩) (cell_lt (cell_b (c_R0_11) (below_alloc _ _))) (frz_b (cell_lt (c_R0_11)) (f_R0_11) (below_alloc _ _)) hg (by show w.heap.size ≠ r; omega)
        have f_R1_12 := frz_gs (p := ⟨w.heap.size, 1, none⟩) (cell_lt (cell_b (c_R1_11) (below_alloc _ _))) (frz_b (cell_lt (c_R1_11)) (f_R1_11) (below_alloc _ _)) hg (by show w.heap.size ≠ r; omega)
        have f_R2_12 := frz_gs (p := ⟨w.heap.size, 2, none⟩) (cell_lt (cell_b (c_R2_11) (below_alloc _ _))) (frz_b (cell_lt (c_R2_11)) (f_R2_11) (below_alloc _ _)) hg (by show w.heap.size ≠ r; omega)
        have r_d_12 := Lib.hid (rdb_gs (rdb_b (r_d_11.out) (below_alloc _ _)) hg (by omega))
        have R_12 := Lib.hid hr1
        have T_12 := Lib.hid (gs_trans (gs_trans (T_11.out) (gs_b (below_alloc _ _))) hg)
        have z_12 : w11.heap.size + 1 ≤ w12.heap.size := (by have := hg.size; (try simp at this); omega)
        have ac_B0_12 := fun o => cell_b (c_B0_12) (below_alloc _ o)
        have bc_B0_12 := fun o o1 => cell_b (ac_B0_12 o) (below_alloc _ o1)
        have ac_B1_12 := fun o => cell_b (c_B1_12) (below_alloc _ o)
        have bc_B1_12 := fun o o1 => cell_b (ac_B1_12 o) (below_alloc _ o1)
        have ac_B2_12 := fun o => cell_b (c_B2_12) (below_alloc _ o)
        have bc_B2_12 := fun o o1 => cell_b (ac_B2_12 o) (below_alloc _ o1)
        have ac_R0_12 := fun o => cell_b (c_R0_12) (below_alloc _ o)
        have bc_R0_12 := fun o o1 => cell_b (ac_R0_12 o) (below_alloc _ o1)
        have ac_R1_12 := fun o => cell_b (c_R1_12) (below_alloc _ o)
        have bc_R1_12 := fun o o1 => cell_b (ac_R1_12 o) (below_alloc _ o1)
        have ac_R2_12 := fun o => cell_b (c_R2_12) (below_alloc _ o)
        have bc_R2_12 := fun o o1 => cell_b (ac_R2_12 o) (below_alloc _ o1)
        have af_B0_12 := fun o => frz_b (cell_lt (c_B0_12)) (f_B0_12) (below_alloc _ o)
        have bf_B0_12 := fun o o1 => frz_b (cell_lt (ac_B0_12 o)) (af_B0_12 o) (below_alloc _ o1)
        have af_B1_12 := fun o => frz_b (cell_lt (c_B1_12)) (f_B1_12) (below_alloc _ o)
        have bf_B1_12 := fun o o1 => frz_b (cell_lt (ac_B1_12 o)) (af_B1_12 o) (below_alloc _ o1)
        have af_B2_12 := fun o => frz_b (cell_lt (c_B2_12)) (f_B2_12) (below_alloc _ o)
        have bf_B2_12 := fun o o1 => frz_b (cell_lt (ac_B2_12 o)) (af_B2_12 o) (below_alloc _ o1)
        have af_R0_12 := fun o => frz_b (cell_lt (c_R0_12)) (f_R0_12) (below_alloc _ o)
        have bf_R0_12 := fun o o1 => frz_b (cell_lt (ac_R0_12 o)) (af_R0_12 o) (below_alloc _ o1)
        have af_R1_12 := fun o => frz_b (cell_lt (c_R1_12)) (f_R1_12) (below_alloc _ o)
        have bf_R1_12 := fun o o1 => frz_b (cell_lt (ac_R1_12 o)) (af_R1_12 o) (below_alloc _ o1)
        have af_R2_12 := fun o => frz_b (cell_lt (c_R2_12)) (f_R2_12) (below_alloc _ o)
        have bf_R2_12 := fun o o1 => frz_b (cell_lt (ac_R2_12 o)) (af_R2_12 o) (below_alloc _ o1)
        clear hg c_B0_11 c_B1_11 c_B2_11 c_R0_11 c_R1_11 c_R2_11 f_B0_11 f_B1_11 f_B2_11 f_R0_11 f_R1_11 f_R2_11 r_d_11 hr1 R_11 T_11 ac_B0_11 bc_B0_11 ac_B1_11 bc_B1_11 ac_B2_11 bc_B2_11 ac_R0_11 bc_R0_11 ac_R1_11 bc_R1_11 ac_R2_11 bc_R2_11 af_B0_11 bf_B0_11 af_B1_11 bf_B1_11 af_B2_11 bf_B2_11 af_R0_11 bf_R0_11 af_R1_11 bf_R1_11 af_R2_11 bf_R2_11 hy
        go_wp2_with fail
        refine bodyPost_ret (v := .agg #[.int .i64 p, .int .i64 y, .slice a Z.length cap]) (by simp [results, Try.results44, go_sem, c_R0_12, c_R1_12, c_R2_12]) rfl ⟨p, y, Z, a, cap, rfl, by omega, rdb_mono (rdb_set (p := ⟨w.heap.size, 2, none⟩) (rdb_set (p := ⟨w.heap.size, 1, none⟩) (rdb_set (p := ⟨w.heap.size, 0, none⟩) (rdb_set (p := ⟨w2.heap.size, 1, none⟩) (r_d_12.out) (fun g h => by have h1 := lr_d.out g h; have h2 := hr_d.out g h; have h9 := HNE.out g h; show g ≠ w2.heap.size; omega) _) (fun g h => by have h1 := lr_d.out g h; have h2 := hr_d.out g h; have h9 := HNE.out g h; show g ≠ w.heap.size; omega) _) (fun g h => by have h1 := lr_d.out g h; have h2 := hr_d.out g h; have h9 := HNE.out g h; show g ≠ w.heap.size; omega) _) (fun g h => by have h1 := lr_d.out g h; have h2 := hr_d.out g h; have h9 := HNE.out g h; show g ≠ w.heap.size; omega) _) (by omega), rdr_mono (rdr_set (p := ⟨w.heap.size, 2, none⟩) (rdr_set (p := ⟨w.heap.size, 1, none⟩) (rdr_set (p := ⟨w.heap.size, 0, none⟩) (rdr_set (p := ⟨w2.heap.size, 1, none⟩) (R_12.out) (by show r < w2.heap.size; omega) _) (by show r < w.heap.size; omega) _) (by show r < w.heap.size; omega) _) (by show r < w.heap.size; omega) _) (by omega), (gs_set (p := ⟨w.heap.size, 2, none⟩) (gs_set (p := ⟨w.heap.size, 1, none⟩) (gs_set (p := ⟨w.heap.size, 0, none⟩) (gs_set (p := ⟨w2.heap.size, 1, none⟩) (T_12.out) (.inr (by show w.heap.size ≤ w2.heap.size; omega)) _) (.inr (by show w.heap.size ≤ w.heap.size; omega)) _) (.inr (by show w.heap.size ≤ w.heap.size; omega)) _) (.inr (by show w.heap.size ≤ w.heap.size; omega)) _)⟩
      have n0 : (x == 0) = false := by simpa using hx0
      have n1 : (x == 1) = false := by simpa using hx1
      have n2 : (x == 2) = false := by simpa using hx2
      go_wp2_with fail
      refine bodyPost_ret (v := .agg #[.int .i64 p, .int .i64 m, .slice a Z.length cap]) (by simp [results, Try.results44, go_sem, c_R0_11, c_R1_11, c_R2_11]) rfl ⟨p, m, Z, a, cap, rfl, by omega, rdb_mono (rdb_set (p := ⟨w.heap.size, 2, none⟩) (rdb_set (p := ⟨w.heap.size, 1, none⟩) (rdb_set (p := ⟨w.heap.size, 0, none⟩) (r_d_11.out) (fun g h => by have h1 := lr_d.out g h; have h2 := hr_d.out g h; have h9 := HNE.out g h; show g ≠ w.heap.size; omega) _) (fun g h => by have h1 := lr_d.out g h; have h2 := hr_d.out g h; have h9 := HNE.out g h; show g ≠ w.heap.size; omega) _) (fun g h => by have h1 := lr_d.out g h; have h2 := hr_d.out g h; have h9 := HNE.out g h; show g ≠ w.heap.size; omega) _) (by omega), rdr_mono (rdr_set (p := ⟨w.heap.size, 2, none⟩) (rdr_set (p := ⟨w.heap.size, 1, none⟩) (rdr_set (p := ⟨w.heap.size, 0, none⟩) (R_11.out) (by show r < w.heap.size; omega) _) (by show r < w.heap.size; omega) _) (by show r < w.heap.size; omega) _) (by omega), (gs_set (p := ⟨w.heap.size, 2, none⟩) (gs_set (p := ⟨w.heap.size, 1, none⟩) (gs_set (p := ⟨w.heap.size, 0, none⟩) (T_11.out) (.inr (by show w.heap.size ≤ w.heap.size; omega)) _) (.inr (by show w.heap.size ≤ w.heap.size; omega)) _) (.inr (by show w.heap.size ≤ w.heap.size; omega)) _)⟩
end Go.Proofs.Ytkglngcopflgeaa
