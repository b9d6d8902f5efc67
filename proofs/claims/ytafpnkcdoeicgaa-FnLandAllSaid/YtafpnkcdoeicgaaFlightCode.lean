/- What the draws of flights hand back. -/
import Derived.Test.YtafpnkcdoeicgaaFlightDraw
import Derived.Deep.RegionHeld3
import Derived.Deep.RegionLaw
import Derived.Deep.DrawnRows
namespace Go.Proofs.Ytafpnkcdoeicgaa
open Go.RowKit
attribute [local go_sem ↓] Go.wp_at_zero Go.wp_at_succ

/-- Two lists of flights, drawn from a code. -/
def CodeFF (w : World) (e : Ending) (w' : World) : Prop :=
  ∃ (X Y : List FT) (a1 : Option Addr) (c1 : Nat) (a2 : Option Addr) (c2 : Nat), e = .returned (.tuple #[.slice a1 X.length c1, .slice a2 Y.length c2]) ∧ X.length + tsum X ≤ 6 ∧ Y.length + tsum Y ≤ 6 ∧ RdF w' w.heap.size w'.heap.size (.slice a1 X.length c1) X ∧ RdF w' w.heap.size w'.heap.size (.slice a2 Y.length c2) Y ∧ Below w.heap.size w w'
/-- A list of flights. -/
def CodeF (w : World) (e : Ending) (w' : World) : Prop :=
  ∃ (X : List FT) (a1 : Option Addr) (c1 : Nat), e = .returned (.slice a1 X.length c1) ∧ X.length + tsum X ≤ 6 ∧ RdF w' w.heap.size w'.heap.size (.slice a1 X.length c1) X ∧ Below w.heap.size w w'
/-- A list of flights, a key, a thread. -/
def CodeFKT (w : World) (e : Ending) (w' : World) : Prop :=
  ∃ (X : List FT) (key t : Int) (a1 : Option Addr) (c1 : Nat), e = .returned (.tuple #[.slice a1 X.length c1, .int .i64 key, .int .i64 t]) ∧ X.length + tsum X ≤ 6 ∧ RdF w' w.heap.size w'.heap.size (.slice a1 X.length c1) X ∧ Below w.heap.size w w'
set_option maxHeartbeats 4000000 in
set_option maxRecDepth 100000 in
theorem S_DrawFlightsSame (w : World) (v : Value) (n : Nat) (hv : RdY w v n) (hn : n ≤ 4294967296) : Calls Try.prog 30 #[v] w (CodeFF w) := by
  have HV := Lib.hid hv
  obtain ⟨ay, capy, rfl, hcapy, hncy, hry⟩ := hv
  clear hry hncy
  go_enter Try.func30, Try.ntmps30
  have T_0 : Hid (Below w.heap.size w w) := Lib.hid (Below.refl _ _)
  go_wp2_with fail
  (with_reducible refine (S_l13Open _ _ n (rdy_b HV.out (Below.refl _ _)) hn).mono ?_)
  rintro e w1 ⟨q, hq, rfl, hr1, hb⟩
  (try simp at hq)
  subst hq
  have zr := rdr_lt hr1
  have R_1 := Lib.hid hr1
  have T_1 := Lib.hid (below_trans (T_0.out) hb)
  have z_1 : w.heap.size ≤ w1.heap.size := (by have := hb.size; (try simp at this); omega)
  clear hb hr1 T_0
  go_wp2_with fail
  (with_reducible refine (S_l3Flights _ w.heap.size (0) (R_1.out) (by omega)).mono ?_)
  rintro e w2 ⟨X, a1, c1, rfl, hX, hd, hr1, hg⟩
  have R_2 := Lib.hid hr1
  have T_2 := Lib.hid (gs_below (T_1.out) hg (by first | omega | (simp; done) | (simp; omega)) (by omega))
  have z_2 : w1.heap.size ≤ w2.heap.size := (by have := hg.size; (try simp at this); omega)
  have r_X_2 := Lib.hid (rdf_mono hd (show w1.heap.size ≤ _ by first | omega | (simp; done) | (simp; omega)) (Nat.le_refl _) (Nat.le_refl _))
  clear hg hr1 R_1 T_1 hd
  go_wp2_with fail
  (with_reducible refine (S_pick _ w.heap.size _ _ (R_2.out) (by omega) (by omega)).mono ?_)
  rintro e w3 ⟨x, rfl, hx0, hx1, hr1, hg⟩
  have r_X_3 := Lib.hid (rdf_gs (r_X_2.out) hg (by omega))
  have R_3 := Lib.hid hr1
  have T_3 := Lib.hid (gs_below (T_2.out) hg (by first | omega | (simp; done) | (simp; omega)) (by omega))
  have z_3 : w2.heap.size ≤ w3.heap.size := (by have := hg.size; (try simp at this); omega)
  clear hg r_X_2 hr1 R_2 T_2 hx1
  by_cases hx0 : x = 0
  · subst hx0
    go_wp2_with fail
    (with_reducible refine (S_l3Copy _ _ _ _ X (r_X_3.out) (by omega)).mono ?_)
    rintro e w4 ⟨Y, a2, c2, rfl, hm, hof, hb⟩
    have r_X_4 := Lib.hid (rdf_b (r_X_3.out) hb)
    have R_4 := Lib.hid (rdr_b (R_3.out) hb)
    have T_4 := Lib.hid (below_trans (T_3.out) hb)
    have z_4 : w3.heap.size ≤ w4.heap.size := (by have := hb.size; (try simp at this); omega)
    have r_Y_4 := Lib.hid (rdf_mono (owf_rdf hof) (show w3.heap.size ≤ _ by first | omega | (simp; done) | (simp; omega)) (Nat.le_refl _) (Nat.le_refl _))
    have hY : Y.length + tsum Y ≤ 6 := (by have h1 := tsum_eq hm; have h2 := len_eq hm; omega)
    clear hb r_X_3 R_3 T_3 hof hm
    go_wp2_with fail
    refine bodyPost_ret (v := .tuple #[.slice a1 X.length c1, .slice a2 Y.length c2]) (by simp [results, Try.results30, go_sem]) rfl ⟨X, Y, a1, c1, a2, c2, rfl, hX, hY, rdf_mono (r_X_4.out) (by omega) (by omega) (Nat.le_refl _), rdf_mono (r_Y_4.out) (by omega) (by omega) (Nat.le_refl _), (T_4.out)⟩
  have hx1 : (x == 0) = false := by simpa using hx0
  go_wp2_with fail
  (with_reducible refine (S_l3Flights _ w.heap.size (0 + 14 + 1) (R_3.out) (by omega)).mono ?_)
  rintro e w4 ⟨Y, a2, c2, rfl, hY, hd, hr1, hg⟩
  have r_X_4 := Lib.hid (rdf_gs (r_X_3.out) hg (by omega))
  have R_4 := Lib.hid hr1
  have T_4 := Lib.hid (gs_below (T_3.out) hg (by first | omega | (simp; done) | (simp; omega)) (by omega))
  have z_4 : w3.heap.size ≤ w4.heap.size := (by have := hg.size; (try simp at this); omega)
  have r_Y_4 := Lib.hid (rdf_mono hd (show w3.heap.size ≤ _ by first | omega | (simp; done) | (simp; omega)) (Nat.le_refl _) (Nat.le_refl _))
  clear hg r_X_3 hr1 R_3 T_3 hd
  go_wp2_with fail
  refine bodyPost_ret (v := .tuple #[.slice a1 X.length c1, .slice a2 Y.length c2]) (by simp [results, Try.results30, go_sem]) rfl ⟨X, Y, a1, c1, a2, c2, rfl, hX, hY, rdf_mono (r_X_4.out) (by omega) (by omega) (Nat.le_refl _), rdf_mono (r_Y_4.out) (by omega) (by omega) (Nat.le_refl _), (T_4.out)⟩
set_option maxHeartbeats 4000000 in
set_option maxRecDepth 100000 in
theorem S_DrawFlightsValid (w : World) (v : Value) (n : Nat) (hv : RdY w v n) (hn : n ≤ 4294967296) : Calls Try.prog 31 #[v] w (CodeF w) := by
  have HV := Lib.hid hv
  obtain ⟨ay, capy, rfl, hcapy, hncy, hry⟩ := hv
  clear hry hncy
  go_enter Try.func31, Try.ntmps31
  have T_0 : Hid (Below w.heap.size w w) := Lib.hid (Below.refl _ _)
  go_wp2_with fail
  (with_reducible refine (S_l13Open _ _ n (rdy_b HV.out (Below.refl _ _)) hn).mono ?_)
  rintro e w1 ⟨q, hq, rfl, hr1, hb⟩
  (try simp at hq)
  subst hq
  have zr := rdr_lt hr1
  have R_1 := Lib.hid hr1
  have T_1 := Lib.hid (below_trans (T_0.out) hb)
  have z_1 : w.heap.size ≤ w1.heap.size := (by have := hb.size; (try simp at this); omega)
  clear hb hr1 T_0
  go_wp2_with fail
  (with_reducible refine (S_l3Flights _ w.heap.size (0) (R_1.out) (by omega)).mono ?_)
  rintro e w2 ⟨X, a1, c1, rfl, hX, hd, hr1, hg⟩
  have R_2 := Lib.hid hr1
  have T_2 := Lib.hid (gs_below (T_1.out) hg (by first | omega | (simp; done) | (simp; omega)) (by omega))
  have z_2 : w1.heap.size ≤ w2.heap.size := (by have := hg.size; (try simp at this); omega)
  have r_X_2 := Lib.hid (rdf_mono hd (show w1.heap.size ≤ _ by first | omega | (simp; done) | (simp; omega)) (Nat.le_refl _) (Nat.le_refl _))
  clear hg hr1 R_1 T_1 hd
  go_wp2_with fail
  refine bodyPost_ret (v := .slice a1 X.length c1) (by simp [results, Try.results31, go_sem]) rfl ⟨X, a1, c1, rfl, hX, rdf_mono (r_X_2.out) (by omega) (by omega) (Nat.le_refl _), (T_2.out)⟩
set_option maxHeartbeats 4000000 in
set_option maxRecDepth 100000 in
theorem S_DrawJoinFlight (w : World) (v : Value) (n : Nat) (hv : RdY w v n) (hn : n ≤ 4294967296) : Calls Try.prog 32 #[v] w (CodeFKT w) := by
  have HV := Lib.hid hv
  obtain ⟨ay, capy, rfl, hcapy, hncy, hry⟩ := hv
  clear hry hncy
  go_enter Try.func32, Try.ntmps32
  have T_0 : Hid (Below w.heap.size w w) := Lib.hid (Below.refl _ _)
  go_wp2_with fail
  (with_reducible refine (S_l13Open _ _ n (rdy_b HV.out (Below.refl _ _)) hn).mono ?_)
  rintro e w1 ⟨q, hq, rfl, hr1, hb⟩
  (try simp at hq)
  subst hq
  have zr := rdr_lt hr1
  have R_1 := Lib.hid hr1
  have T_1 := Lib.hid (below_trans (T_0.out) hb)
  have z_1 : w.heap.size ≤ w1.heap.size := (by have := hb.size; (try simp at this); omega)
  clear hb hr1 T_0
  go_wp2_with fail
  (with_reducible refine (S_l3Flights _ w.heap.size (0) (R_1.out) (by omega)).mono ?_)
  rintro e w2 ⟨X, a1, c1, rfl, hX, hd, hr1, hg⟩
  have R_2 := Lib.hid hr1
  have T_2 := Lib.hid (gs_below (T_1.out) hg (by first | omega | (simp; done) | (simp; omega)) (by omega))
  have z_2 : w1.heap.size ≤ w2.heap.size := (by have := hg.size; (try simp at this); omega)
  have r_X_2 := Lib.hid (rdf_mono hd (show w1.heap.size ≤ _ by first | omega | (simp; done) | (simp; omega)) (Nat.le_refl _) (Nat.le_refl _))
  clear hg hr1 R_1 T_1 hd
  go_wp2_with fail
  (with_reducible refine (S_num _ w.heap.size _ [1, 2, 5, 3, 100] (0 + 14) (rdr_b (R_2.out) (below_alloc _ _)) (by omega) (rdb_lit _ #[.int .i64 1, .int .i64 2, .int .i64 5, .int .i64 3, .int .i64 100] [1, 2, 5, 3, 100] rfl (w.heap.size + 1) (w2.heap.size) 5 (by first | rfl | simp) rfl (by first | omega | (simp; omega))) (by decide) (by decide)).mono ?_)
  rintro e w3 ⟨key, rfl, hkey, hr1, hg⟩
  have r_X_3 := Lib.hid (rdf_gs (rdf_b (r_X_2.out) (below_alloc _ _)) hg (by omega))
  have R_3 := Lib.hid hr1
  have T_3 := Lib.hid (gs_below (below_trans (T_2.out) (below_alloc _ _)) hg (by first | omega | (simp; done) | (simp; omega)) (by omega))
  have z_3 : w2.heap.size + 1 ≤ w3.heap.size := (by have := hg.size; (try simp at this); omega)
  clear hg r_X_2 hr1 R_2 T_2 hkey
  go_wp2_with fail
  (with_reducible refine (S_num _ w.heap.size _ [0, 1, 2, 3, 4, 5, 6] (0 + 15) (rdr_b (R_3.out) (below_alloc _ _)) (by omega) (rdb_lit _ #[.int .i64 0, .int .i64 1, .int .i64 2, .int .i64 3, .int .i64 4, .int .i64 5, .int .i64 6] [0, 1, 2, 3, 4, 5, 6] rfl (w.heap.size + 1) (w3.heap.size) 7 (by first | rfl | simp) rfl (by first | omega | (simp; omega))) (by decide) (by decide)).mono ?_)
  rintro e w4 ⟨t, rfl, ht, hr1, hg⟩
  have r_X_4 := Lib.hid (rdf_gs (rdf_b (r_X_3.out) (below_alloc _ _)) hg (by omega))
  have R_4 := Lib.hid hr1
  have T_4 := Lib.hid (gs_below (below_trans (T_3.out) (below_alloc _ _)) hg (by first | omega | (simp; done) | (simp; omega)) (by omega))
  have z_4 : w3.heap.size + 1 ≤ w4.heap.size := (by have := hg.size; (try simp at this); omega)
  clear hg r_X_3 hr1 R_3 T_3 ht
  go_wp2_with fail
  refine bodyPost_ret (v := .tuple #[.slice a1 X.length c1, .int .i64 key, .int .i64 t]) (by simp [results, Try.results32, go_sem]) rfl ⟨X, key, t, a1, c1, rfl, hX, rdf_mono (r_X_4.out) (by omega) (by omega) (Nat.le_refl _), (T_4.out)⟩
set_option maxHeartbeats 4000000 in
set_option maxRecDepth 100000 in
theorem S_DrawLandFlight (w : World) (v : Value) (n : Nat) (hv : RdY w v n) (hn : n ≤ 4294967296) : Calls Try.prog 28 #[v] w (CodeFKT w) := by
  have HV := Lib.hid hv
  obtain ⟨ay, capy, rfl, hcapy, hncy, hry⟩ := hv
  clear hry hncy
  go_enter Try.func28, Try.ntmps28
  have T_0 : Hid (Below w.heap.size w w) := Lib.hid (Below.refl _ _)
  go_wp2_with fail
  (with_reducible refine (S_l13Open _ _ n (rdy_b HV.out (Below.refl _ _)) hn).mono ?_)
  rintro e w1 ⟨q, hq, rfl, hr1, hb⟩
  (try simp at hq)
  subst hq
  have zr := rdr_lt hr1
  have R_1 := Lib.hid hr1
  have T_1 := Lib.hid (below_trans (T_0.out) hb)
  have z_1 : w.heap.size ≤ w1.heap.size := (by have := hb.size; (try simp at this); omega)
  clear hb hr1 T_0
  go_wp2_with fail
  (with_reducible refine (S_l3Flights _ w.heap.size (0) (R_1.out) (by omega)).mono ?_)
  rintro e w2 ⟨X, a1, c1, rfl, hX, hd, hr1, hg⟩
  have R_2 := Lib.hid hr1
  have T_2 := Lib.hid (gs_below (T_1.out) hg (by first | omega | (simp; done) | (simp; omega)) (by omega))
  have z_2 : w1.heap.size ≤ w2.heap.size := (by have := hg.size; (try simp at this); omega)
  have r_X_2 := Lib.hid (rdf_mono hd (show w1.heap.size ≤ _ by first | omega | (simp; done) | (simp; omega)) (Nat.le_refl _) (Nat.le_refl _))
  clear hg hr1 R_1 T_1 hd
  by_cases hl0 : X.length = 0
  · have hlz : ¬ (0 : Int) < (X.length : Int) := by omega
    clear hl0
    go_wp2_with fail
    (with_reducible refine (S_num _ w.heap.size _ [1, 2, 5] (0 + 14) (rdr_b (R_2.out) (below_alloc _ _)) (by omega) (rdb_lit _ #[.int .i64 1, .int .i64 2, .int .i64 5] [1, 2, 5] rfl (w.heap.size + 1) (w2.heap.size) 3 (by first | rfl | simp) rfl (by first | omega | (simp; omega))) (by decide) (by decide)).mono ?_)
    rintro e w3 ⟨key, rfl, hkey, hr1, hg⟩
    have r_X_3 := Lib.hid (rdf_gs (rdf_b (r_X_2.out) (below_alloc _ _)) hg (by omega))
    have R_3 := Lib.hid hr1
    have T_3 := Lib.hid (gs_below (below_trans (T_2.out) (below_alloc _ _)) hg (by first | omega | (simp; done) | (simp; omega)) (by omega))
    have z_3 : w2.heap.size + 1 ≤ w3.heap.size := (by have := hg.size; (try simp at this); omega)
    clear hg r_X_2 hr1 R_2 T_2 hkey
    go_wp2_with fail
    (with_reducible refine (S_pick _ w.heap.size _ _ (R_3.out) (by omega) (by omega)).mono ?_)
    rintro e w4 ⟨t, rfl, ht0, ht1, hr1, hg⟩
    have r_X_4 := Lib.hid (rdf_gs (r_X_3.out) hg (by omega))
    have R_4 := Lib.hid hr1
    have T_4 := Lib.hid (gs_below (T_3.out) hg (by first | omega | (simp; done) | (simp; omega)) (by omega))
    have z_4 : w3.heap.size ≤ w4.heap.size := (by have := hg.size; (try simp at this); omega)
    clear hg r_X_3 hr1 R_3 T_3 ht1
    go_wp2_with fail
    refine bodyPost_ret (v := .tuple #[.slice a1 X.length c1, .int .i64 key, .int .i64 t]) (by simp [results, Try.results28, go_sem]) rfl ⟨X, key, t, a1, c1, rfl, hX, rdf_mono (r_X_4.out) (by omega) (by omega) (Nat.le_refl _), (T_4.out)⟩
  have hlz : (0 : Int) < (X.length : Int) := by omega
  clear hl0
  go_wp2_with fail
  (with_reducible refine (S_pick _ w.heap.size _ _ (R_2.out) (by omega) (by omega)).mono ?_)
  rintro e w3 ⟨x, rfl, hx0, hx1, hr1, hg⟩
  have r_X_3 := Lib.hid (rdf_gs (r_X_2.out) hg (by omega))
  have R_3 := Lib.hid hr1
  have T_3 := Lib.hid (gs_below (T_2.out) hg (by first | omega | (simp; done) | (simp; omega)) (by omega))
  have z_3 : w2.heap.size ≤ w3.heap.size := (by have := hg.size; (try simp at this); omega)
  clear hg r_X_2 hr1 R_2 T_2 hx1
  by_cases hx0 : 0 < x
  · go_wp2_with fail
    (with_reducible refine (S_pick _ w.heap.size _ _ (R_3.out) (by omega) (by omega)).mono ?_)
    rintro e w4 ⟨y, rfl, hy0, hy1, hr1, hg⟩
    have r_X_4 := Lib.hid (rdf_gs (r_X_3.out) hg (by omega))
    have R_4 := Lib.hid hr1
    have T_4 := Lib.hid (gs_below (T_3.out) hg (by first | omega | (simp; done) | (simp; omega)) (by omega))
    have z_4 : w3.heap.size ≤ w4.heap.size := (by have := hg.size; (try simp at this); omega)
    obtain ⟨k, rfl⟩ : ∃ k : Nat, y = k := ⟨y.toNat, by omega⟩
    have hk : k < X.length := (by omega)
    have hk2 : (k : Int) < (X.length : Int) := (by omega)
    clear hg r_X_3 hr1 R_3 T_3 hy1 hy0
    obtain ⟨a9, c9, e9, _, _, hc⟩ := rdf_cells r_X_4.out
    simp only [Value.slice.injEq, true_and] at e9
    obtain ⟨rfl, rfl⟩ := e9
    rcases hc with hc | ⟨gx, ox, rfl, _, _, _, hc⟩
    · omega
    obtain ⟨c_Z0_4, c_Z1_4, c_Z2_4⟩ := hc k hk
    obtain ⟨za, zc, hz3⟩ := rd_sl (rdf_rd r_X_4.out hk)
    rw [hz3] at c_Z2_4
    generalize X[k].1 = zk at *
    generalize X[k].2.1 = zo at *
    generalize X[k].2.2.1.length = zn at *
    clear hc
    have ac_Z0_4 := fun o => cell_b (c_Z0_4) (below_alloc _ o)
    have bc_Z0_4 := fun o o1 => cell_b (ac_Z0_4 o) (below_alloc _ o1)
    have ac_Z1_4 := fun o => cell_b (c_Z1_4) (below_alloc _ o)
    have bc_Z1_4 := fun o o1 => cell_b (ac_Z1_4 o) (below_alloc _ o1)
    have ac_Z2_4 := fun o => cell_b (c_Z2_4) (below_alloc _ o)
    have bc_Z2_4 := fun o o1 => cell_b (ac_Z2_4 o) (below_alloc _ o1)
    go_wp2
    go_quiet (fail)
    go_wp2_with fail
    refine bodyPost_ret (v := .tuple #[.slice (some ⟨gx, ox, none⟩) X.length c1, .int .i64 zk, .int .i64 zo]) (by simp [results, Try.results28, go_sem]) rfl ⟨X, zk, zo, _, c1, rfl, hX, rdf_mono (rdf_b (rdf_b (r_X_4.out) (below_alloc _ _)) (drewN_below _ _)) (by omega) (by simp; omega) (Nat.le_refl _), (below_trans (below_trans (T_4.out) (below_alloc _ _)) (drewN_below _ _))⟩
  go_wp2_with fail
  (with_reducible refine (S_num _ w.heap.size _ [1, 2, 5] (0 + 14 + 1) (rdr_b (R_3.out) (below_alloc _ _)) (by omega) (rdb_lit _ #[.int .i64 1, .int .i64 2, .int .i64 5] [1, 2, 5] rfl (w.heap.size + 1) (w3.heap.size) 3 (by first | rfl | simp) rfl (by first | omega | (simp; omega))) (by decide) (by decide)).mono ?_)
  rintro e w4 ⟨key, rfl, hkey, hr1, hg⟩
  have r_X_4 := Lib.hid (rdf_gs (rdf_b (r_X_3.out) (below_alloc _ _)) hg (by omega))
  have R_4 := Lib.hid hr1
  have T_4 := Lib.hid (gs_below (below_trans (T_3.out) (below_alloc _ _)) hg (by first | omega | (simp; done) | (simp; omega)) (by omega))
  have z_4 : w3.heap.size + 1 ≤ w4.heap.size := (by have := hg.size; (try simp at this); omega)
  clear hg r_X_3 hr1 R_3 T_3 hkey
  go_wp2_with fail
  (with_reducible refine (S_pick _ w.heap.size _ _ (R_4.out) (by omega) (by omega)).mono ?_)
  rintro e w5 ⟨t, rfl, ht0, ht1, hr1, hg⟩
  have r_X_5 := Lib.hid (rdf_gs (r_X_4.out) hg (by omega))
  have R_5 := Lib.hid hr1
  have T_5 := Lib.hid (gs_below (T_4.out) hg (by first | omega | (simp; done) | (simp; omega)) (by omega))
  have z_5 : w4.heap.size ≤ w5.heap.size := (by have := hg.size; (try simp at this); omega)
  clear hg r_X_4 hr1 R_4 T_4 ht1
  go_wp2_with fail
  refine bodyPost_ret (v := .tuple #[.slice a1 X.length c1, .int .i64 key, .int .i64 t]) (by simp [results, Try.results28, go_sem]) rfl ⟨X, key, t, a1, c1, rfl, hX, rdf_mono (r_X_5.out) (by omega) (by omega) (Nat.le_refl _), (T_5.out)⟩
end Go.Proofs.Ytafpnkcdoeicgaa
