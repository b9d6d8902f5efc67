/- The law FnBarrierRounds: the walk. -/
import Derived.Test.YtkglngcopflgeaaDrawCond
import Derived.Test.YtkglngcopflgeaaQuickBarrier
import Derived.Test.YtkglngcopflgeaaPlainBarrier
import Derived.Test.YtkglngcopflgeaaWkBarrier
import Derived.Test.YtkglngcopflgeaaGuard
import Derived.Deep.RegionHeld3
import Derived.Deep.DrawnRows
import Derived.Deep.RegionLaw
namespace Go.Proofs.Ytkglngcopflgeaa
open Go.RowKit
attribute [local go_sem ↓] Go.wp_at_zero Go.wp_at_succ
/-- At the head of FnBarrierRounds' loop: m rounds are over, k have come. -/
def BRHead (w : World) (t : Nat) (BC : Nat) (vo vi : Value) (wr : World) : Prop :=
  ∃ (i p m k : Nat) (Z : List Int) (ad : Option Addr) (cd : Nat), vi = .int .i64 (i : Int) ∧ vo = .int .i64 (p : Int) ∧ i = p + k ∧ p = m * t ∧ ((m < 3 ∧ p + t ≤ 3 * t ∧ k < t) ∨ (m = 3 ∧ p = 3 * t ∧ k = 0)) ∧ Z = rg k ∧ Z.length ≤ 6 ∧
    wr.cell? ⟨BC, 0, none⟩ = some (.int .i64 (t : Int)) ∧ wr.cell? ⟨BC, 1, none⟩ = some (.int .i64 (m : Int)) ∧ wr.cell? ⟨BC, 2, none⟩ = some (.slice ad Z.length cd) ∧ wr.frozen? ⟨BC, 0, none⟩ = false ∧ wr.frozen? ⟨BC, 1, none⟩ = false ∧ wr.frozen? ⟨BC, 2, none⟩ = false ∧
    RdB wr w.heap.size (.slice ad Z.length cd) Z ∧ Below w.heap.size w wr ∧ BC < wr.heap.size
theorem br_mod {i p m k t : Nat} (h1 : i = p + k) (h2 : p = m * t) (h3 : k < t) : i % t = k := by
  subst h1; subst h2; rw [Nat.mul_comm, Nat.mul_add_mod, Nat.mod_eq_of_lt h3]
theorem br_lt {p m t : Nat} (h2 : p = m * t) (h : m + 1 < 3) : p + t + t ≤ 3 * t := by
  rcases (show m = 0 ∨ m = 1 by omega) with rfl | rfl <;> omega
theorem br_three {p m t : Nat} (h2 : p = m * t) (h : m < 3) (h' : ¬ m + 1 < 3) : p + t = 3 * t := by
  obtain rfl : m = 2 := by omega
  omega
theorem br_up {p m t : Nat} (h2 : p = m * t) : p + t = (m + 1) * t := by subst h2; rw [Nat.add_mul, Nat.one_mul]
set_option maxHeartbeats 4000000 in
set_option maxRecDepth 100000 in
theorem W_FnBarrierRounds (w : World) (v : Value) (n : Nat) (hv : RdY w v n) (hm : n ≤ 9223372036854775807) :
    Calls Try.prog 3 #[v] w fun e w' => e = .returned (.bool true) ∧ Below w.heap.size w w' := by
  have HV := Lib.hid hv
  obtain ⟨a, cap, rfl, hcap, hnc, hr⟩ := hv
  clear hr hnc
  by_cases hbig : 1048576 < n
  · go_enter Try.func3, Try.ntmps3
    go_wp2
    go_ret
    exact ⟨rfl, Below.refl _ _⟩
  · go_enter Try.func3, Try.ntmps3
    have T_0 : Hid (Below w.heap.size w w) := Lib.hid (Below.refl _ _)
    go_wp2_with fail
    (with_reducible refine (S_DrawNewBarrier _ _ n HV.out (by omega)).mono ?_)
    rintro e w1 ⟨t0, rfl, hb⟩
    have T_1 := Lib.hid (below_trans (T_0.out) hb)
    have z_1 : w.heap.size ≤ w1.heap.size := (by have := hb.size; (try simp at this); omega)
    clear hb T_0
    by_cases hok : nbOk t0 = true
    · have ht := nbOk_iff.1 hok
      obtain ⟨t, rfl⟩ : ∃ t : Nat, t0 = t := ⟨t0.toNat, by omega⟩
      have HV1 := Lib.hid hok
      clear hok
      have ht1 : 1 ≤ t := by omega
      have ht2 : t ≤ 6 := by omega
      have HQ1 : Hid (nbP (t : Int) = (t : Int)) := Lib.hid (by simp [nbP, HV1.out])
      go_wp2_with fail
      (with_reducible refine (I_NewBarrier_q _ ((t : Int)) ((t : Int)) (0) (([] : List Int)) (true) (0) HQ1.out rfl rfl HV1.out rfl).mono ?_)
      rintro e w2 ⟨aX0, cX0, rfl, hX0, hb⟩
      have T_2 := Lib.hid (below_trans (T_1.out) hb)
      have z_2 : w1.heap.size ≤ w2.heap.size := (by have := hb.size; (try simp at this); omega)
      have r_X0_2 := Lib.hid (rdb_mono hX0 (show w1.heap.size ≤ _ by first | omega | (simp; done) | (simp; omega)))
      have lr_X0 := Lib.hid (rdb_lo r_X0_2.out)
      have hr_X0 := Lib.hid (rdb_hi r_X0_2.out)
      clear hb T_1 hX0
      go_wp2_with fail
      (with_reducible refine (S_NewBarrier_q _ ((t : Int)) ((t : Int)) (0) (([] : List Int)) (true) (0) HQ1.out rfl rfl HV1.out rfl).mono ?_)
      rintro e w3 ⟨aY0, cY0, rfl, hY0, hb⟩
      have c_X0_3 := cell_b (p := ⟨w2.heap.size, 0, none⟩) (v := .int .i64 (t : Int)) (by simp) hb
      have f_X0_3 := frz_b (p := ⟨w2.heap.size, 0, none⟩) (by first | omega | (simp; done) | (simp; omega)) (show _ = false by simp) hb
      have c_X1_3 := cell_b (p := ⟨w2.heap.size, 1, none⟩) (v := .int .i64 0) (by simp) hb
      have f_X1_3 := frz_b (p := ⟨w2.heap.size, 1, none⟩) (by first | omega | (simp; done) | (simp; omega)) (show _ = false by simp) hb
      have c_X2_3 := cell_b (p := ⟨w2.heap.size, 2, none⟩) (v := .slice aX0 (0) cX0) (by simp) hb
      have f_X2_3 := frz_b (p := ⟨w2.heap.size, 2, none⟩) (by first | omega | (simp; done) | (simp; omega)) (show _ = false by simp) hb
      have r_X0_3 := Lib.hid (rdb_b (rdb_b (r_X0_2.out) (below_alloc _ _)) hb)
      have T_3 := Lib.hid (below_trans (below_trans (T_2.out) (below_alloc _ _)) hb)
      have z_3 : w2.heap.size + 1 ≤ w3.heap.size := (by have := hb.size; (try simp at this); omega)
      have r_Y0_3 := Lib.hid (rdb_mono hY0 (show w2.heap.size + 1 ≤ _ by first | omega | (simp; done) | (simp; omega)))
      have lr_Y0 := Lib.hid (rdb_lo r_Y0_3.out)
      have hr_Y0 := Lib.hid (rdb_hi r_Y0_3.out)
      have ac_X0_3 := fun o => cell_b (c_X0_3) (below_alloc _ o)
      have bc_X0_3 := fun o o1 => cell_b (ac_X0_3 o) (below_alloc _ o1)
      have ac_X1_3 := fun o => cell_b (c_X1_3) (below_alloc _ o)
      have bc_X1_3 := fun o o1 => cell_b (ac_X1_3 o) (below_alloc _ o1)
      have ac_X2_3 := fun o => cell_b (c_X2_3) (below_alloc _ o)
      have bc_X2_3 := fun o o1 => cell_b (ac_X2_3 o) (below_alloc _ o1)
      have af_X0_3 := fun o => frz_b (cell_lt (c_X0_3)) (f_X0_3) (below_alloc _ o)
      have bf_X0_3 := fun o o1 => frz_b (cell_lt (ac_X0_3 o)) (af_X0_3 o) (below_alloc _ o1)
      have af_X1_3 := fun o => frz_b (cell_lt (c_X1_3)) (f_X1_3) (below_alloc _ o)
      have bf_X1_3 := fun o o1 => frz_b (cell_lt (ac_X1_3 o)) (af_X1_3 o) (below_alloc _ o1)
      have af_X2_3 := fun o => frz_b (cell_lt (c_X2_3)) (f_X2_3) (below_alloc _ o)
      have bf_X2_3 := fun o o1 => frz_b (cell_lt (ac_X2_3 o)) (af_X2_3 o) (below_alloc _ o1)
      clear hb r_X0_2 T_2 hY0
      go_wp2_with fail
      (with_reducible refine (L_wkBarrier _ (t : Int) 0 _ _ (([] : List Int)) (rdb_rd (rdb_b (r_X0_3.out) (below_alloc _ _))) (rdb_rd (rdb_b (r_Y0_3.out) (below_alloc _ _))) (by first | omega | (simp; done) | (simp; omega))).mono ?_)
      rintro e w4 ⟨rfl, hb⟩
      have c_X0_4 := cell_b (cell_b (c_X0_3) (below_alloc _ _)) hb
      have c_X1_4 := cell_b (cell_b (c_X1_3) (below_alloc _ _)) hb
      have c_X2_4 := cell_b (cell_b (c_X2_3) (below_alloc _ _)) hb
      have f_X0_4 := frz_b (cell_lt (cell_b (c_X0_3) (below_alloc _ _))) (frz_b (cell_lt (c_X0_3)) (f_X0_3) (below_alloc _ _)) hb
      have f_X1_4 := frz_b (cell_lt (cell_b (c_X1_3) (below_alloc _ _))) (frz_b (cell_lt (c_X1_3)) (f_X1_3) (below_alloc _ _)) hb
      have f_X2_4 := frz_b (cell_lt (cell_b (c_X2_3) (below_alloc _ _))) (frz_b (cell_lt (c_X2_3)) (f_X2_3) (below_alloc _ _)) hb
      have c_Y0_4 := cell_b (p := ⟨w3.heap.size, 0, none⟩) (v := .int .i64 (t : Int)) (by simp) hb
      have c_Y1_4 := cell_b (p := ⟨w3.heap.size, 1, none⟩) (v := .int .i64 0) (by simp) hb
      have c_Y2_4 := cell_b (p := ⟨w3.heap.size, 2, none⟩) (v := .slice aY0 (0) cY0) (by simp) hb
      have r_X0_4 := Lib.hid (rdb_b (rdb_b (r_X0_3.out) (below_alloc _ _)) hb)
      have r_Y0_4 := Lib.hid (rdb_b (rdb_b (r_Y0_3.out) (below_alloc _ _)) hb)
      have T_4 := Lib.hid (below_trans (below_trans (T_3.out) (below_alloc _ _)) hb)
      have z_4 : w3.heap.size + 1 ≤ w4.heap.size := (by have := hb.size; (try simp at this); omega)
      have ac_X0_4 := fun o => cell_b (c_X0_4) (below_alloc _ o)
      have bc_X0_4 := fun o o1 => cell_b (ac_X0_4 o) (below_alloc _ o1)
      have ac_X1_4 := fun o => cell_b (c_X1_4) (below_alloc _ o)
      have bc_X1_4 := fun o o1 => cell_b (ac_X1_4 o) (below_alloc _ o1)
      have ac_X2_4 := fun o => cell_b (c_X2_4) (below_alloc _ o)
      have bc_X2_4 := fun o o1 => cell_b (ac_X2_4 o) (below_alloc _ o1)
      have ac_Y0_4 := fun o => cell_b (c_Y0_4) (below_alloc _ o)
      have bc_Y0_4 := fun o o1 => cell_b (ac_Y0_4 o) (below_alloc _ o1)
      have ac_Y1_4 := fun o => cell_b (c_Y1_4) (below_alloc _ o)
      have bc_Y1_4 := fun o o1 => cell_b (ac_Y1_4 o) (below_alloc _ o1)
      have ac_Y2_4 := fun o => cell_b (c_Y2_4) (below_alloc _ o)
      have bc_Y2_4 := fun o o1 => cell_b (ac_Y2_4 o) (below_alloc _ o1)
      have af_X0_4 := fun o => frz_b (cell_lt (c_X0_4)) (f_X0_4) (below_alloc _ o)
      have bf_X0_4 := fun o o1 => frz_b (cell_lt (ac_X0_4 o)) (af_X0_4 o) (below_alloc _ o1)
      have af_X1_4 := fun o => frz_b (cell_lt (c_X1_4)) (f_X1_4) (below_alloc _ o)
      have bf_X1_4 := fun o o1 => frz_b (cell_lt (ac_X1_4 o)) (af_X1_4 o) (below_alloc _ o1)
      have af_X2_4 := fun o => frz_b (cell_lt (c_X2_4)) (f_X2_4) (below_alloc _ o)
      have bf_X2_4 := fun o o1 => frz_b (cell_lt (ac_X2_4 o)) (af_X2_4 o) (below_alloc _ o1)
      clear hb c_X0_3 c_X1_3 c_X2_3 f_X0_3 f_X1_3 f_X2_3 r_X0_3 r_Y0_3 T_3 ac_X0_3 bc_X0_3 ac_X1_3 bc_X1_3 ac_X2_3 bc_X2_3 af_X0_3 bf_X0_3 af_X1_3 bf_X1_3 af_X2_3 bf_X2_3
      clear c_Y0_4 ac_Y0_4 bc_Y0_4 c_Y1_4 ac_Y1_4 bc_Y1_4 c_Y2_4 ac_Y2_4 bc_Y2_4 r_Y0_4 lr_Y0 hr_Y0
      go_wp2_with fail
      go_loopw [8, 9, 10, 11, 12] (fun vo vi _ _ _ wr => BRHead w t (w2.heap.size) vo vi wr) (fun _ i _ _ _ _ => (3 * t - intOf i).toNat)
      case atStart => exact ⟨0, 0, 0, 0, [], _, _, rfl, rfl, rfl, by simp, .inl ⟨by omega, by omega, by omega⟩, rfl, by simp, c_X0_4, c_X1_4, c_X2_4, f_X0_4, f_X1_4, f_X2_4, rdb_mono (r_X0_4.out) (by omega), (T_4.out), by omega⟩
      case round =>
        obtain ⟨i, p, m, k, Z, ad, cd, rfl, rfl, hip, hpm, hcase, hZ, hZl, c_X0_30, c_X1_30, c_X2_30, f_X0_30, f_X1_30, f_X2_30, hrd, hbl, hBC⟩ := hrel
        obtain ⟨w30, rfl⟩ : ∃ w30 : World, w30 = wr := ⟨_, rfl⟩
        have r_d_30 := Lib.hid hrd
        have lr_d := Lib.hid (rdb_lo hrd)
        have hr_d := Lib.hid (rdb_hi hrd)
        have T_30 := Lib.hid hbl
        have hz30 := hbl.size
        have HZ := Lib.hid hZ
        have HP := Lib.hid hpm
        have HI := Lib.hid hip
        have hi1 : i ≤ p + k := by omega
        have hi2 : p + k ≤ i := by omega
        clear hrd hbl hZ hpm hip r_X0_4 T_4 c_X0_4 c_X1_4 c_X2_4 f_X0_4 f_X1_4 f_X2_4 ac_X0_4 bc_X0_4 ac_X1_4 bc_X1_4 ac_X2_4 bc_X2_4 af_X0_4 bf_X0_4 af_X1_4 bf_X1_4 af_X2_4 bf_X2_4
        rcases hcase with ⟨hm3, hpt, hkt⟩ | ⟨hm3, hpt, hk0⟩
        · have HA := Lib.hid (arr_rg (t := t) (k := k) (m := (m : Int)) ht2 hkt (by omega) (by omega))
          rw [← HZ.out] at HA
          have HM := Lib.hid (br_mod HI.out HP.out hkt)
          have HU := Lib.hid (br_up HP.out)
          by_cases hl2 : k + 1 < t
          · have HB : Hid (arr (t : Int) (m : Int) Z (k : Int) = ((t : Int), (m : Int), rg (k + 1), ([] : List Int), true)) := Lib.hid (by rw [HA.out, if_pos hl2])
            have HQ51 : Hid ((arr (t : Int) (m : Int) Z (k : Int)).1 = (t : Int)) := Lib.hid (by rw [HB.out])
            have HQ52 : Hid ((arr (t : Int) (m : Int) Z (k : Int)).2.1 = (m : Int)) := Lib.hid (by rw [HB.out])
            have HQ53 : Hid ((arr (t : Int) (m : Int) Z (k : Int)).2.2.1 = rg (k + 1)) := Lib.hid (by rw [HB.out])
            have HQ54 : Hid ((arr (t : Int) (m : Int) Z (k : Int)).2.2.2.1 = ([] : List Int)) := Lib.hid (by rw [HB.out])
            have HQ55 : Hid ((arr (t : Int) (m : Int) Z (k : Int)).2.2.2.2 = true) := Lib.hid (by rw [HB.out])
            have hnz : ¬ t = 0 := by omega
            have t1 : (i : Int).tmod (t : Int) = (k : Int) := by rw [← Int.ofNat_tmod]; rw [HM.out]
            have t2 : (i : Int) % (t : Int) = (k : Int) := by rw [← Int.natCast_emod]; rw [HM.out]
            have ac_X0_30 := fun o => cell_b (c_X0_30) (below_alloc _ o)
            have bc_X0_30 := fun o o1 => cell_b (ac_X0_30 o) (below_alloc _ o1)
            have ac_X1_30 := fun o => cell_b (c_X1_30) (below_alloc _ o)
            have bc_X1_30 := fun o o1 => cell_b (ac_X1_30 o) (below_alloc _ o1)
            have ac_X2_30 := fun o => cell_b (c_X2_30) (below_alloc _ o)
            have bc_X2_30 := fun o o1 => cell_b (ac_X2_30 o) (below_alloc _ o1)
            have af_X0_30 := fun o => frz_b (cell_lt (c_X0_30)) (f_X0_30) (below_alloc _ o)
            have bf_X0_30 := fun o o1 => frz_b (cell_lt (ac_X0_30 o)) (af_X0_30 o) (below_alloc _ o1)
            have af_X1_30 := fun o => frz_b (cell_lt (c_X1_30)) (f_X1_30) (below_alloc _ o)
            have bf_X1_30 := fun o o1 => frz_b (cell_lt (ac_X1_30 o)) (af_X1_30 o) (below_alloc _ o1)
            have af_X2_30 := fun o => frz_b (cell_lt (c_X2_30)) (f_X2_30) (below_alloc _ o)
            have bf_X2_30 := fun o o1 => frz_b (cell_lt (ac_X2_30 o)) (af_X2_30 o) (below_alloc _ o1)
            go_wp2_with fail
            go_region_held3 (fun w' => w'.cell? ⟨w2.heap.size, 0, none⟩ = some (.int .i64 (t : Int)) ∧ w'.cell? ⟨w2.heap.size, 1, none⟩ = some (.int .i64 (m : Int)) ∧ w'.cell? ⟨w2.heap.size, 2, none⟩ = some (.slice ad Z.length cd)) (first | with_reducible exact ⟨c_X0_30, c_X1_30, c_X2_30⟩ | with_reducible exact ⟨cell_b (c_X0_30) (below_alloc _ _), cell_b (c_X1_30) (below_alloc _ _), cell_b (c_X2_30) (below_alloc _ _)⟩ | with_reducible exact ⟨cell_b (cell_b (c_X0_30) (below_alloc _ _)) (drew_below _), cell_b (cell_b (c_X1_30) (below_alloc _ _)) (drew_below _), cell_b (cell_b (c_X2_30) (below_alloc _ _)) (drew_below _)⟩ | with_reducible exact ⟨c_X0_31, c_X1_31, c_X2_31⟩ | with_reducible exact ⟨cell_set (p := ⟨w30.heap.size, 2, none⟩) (cell_set (p := ⟨w30.heap.size, 1, none⟩) (cell_set (p := ⟨w30.heap.size, 0, none⟩) (c_X0_31) (ne_blk (by omega))) (ne_blk (by omega))) (ne_blk (by omega)), cell_set (p := ⟨w30.heap.size, 2, none⟩) (cell_set (p := ⟨w30.heap.size, 1, none⟩) (cell_set (p := ⟨w30.heap.size, 0, none⟩) (c_X1_31) (ne_blk (by omega))) (ne_blk (by omega))) (ne_blk (by omega)), cell_set (p := ⟨w30.heap.size, 2, none⟩) (cell_set (p := ⟨w30.heap.size, 1, none⟩) (cell_set (p := ⟨w30.heap.size, 0, none⟩) (c_X2_31) (ne_blk (by omega))) (ne_blk (by omega))) (ne_blk (by omega))⟩ | with_reducible exact ⟨cell_b (c_X0_30) (drew_below _), cell_b (c_X1_30) (drew_below _), cell_b (c_X2_30) (drew_below _)⟩ | with_reducible exact ⟨cell_b (c_X0_31) (below_alloc _ _), cell_b (c_X1_31) (below_alloc _ _), cell_b (c_X2_31) (below_alloc _ _)⟩ | go_keep)
                (first | (go_at_call 16; (with_reducible refine (I_Arrive_q _ ((t : Int)) ((m : Int)) _ (Z) ((k : Int)) ((t : Int)) ((m : Int)) (rg (k + 1)) (([] : List Int)) (true) (k + 1) (0) (rdb_rd (rdb_b (rdb_b (r_d_30.out) (below_alloc _ _)) (drew_below _))) (by first | omega | (simp; done) | (simp; omega)) HQ51.out HQ52.out HQ53.out HQ54.out HQ55.out (rg_len _) rfl).mono ?_); rintro e w31 ⟨aN0, cN0, aN1, cN1, rfl, hN0, hN1, hb⟩; have c_X0_31 := cell_b (cell_b (cell_b (c_X0_30) (below_alloc _ _)) (drew_below _)) hb; have c_X1_31 := cell_b (cell_b (cell_b (c_X1_30) (below_alloc _ _)) (drew_below _)) hb; have c_X2_31 := cell_b (cell_b (cell_b (c_X2_30) (below_alloc _ _)) (drew_below _)) hb; have f_X0_31 := frz_b (cell_lt (cell_b (cell_b (c_X0_30) (below_alloc _ _)) (drew_below _))) (frz_b (cell_lt (cell_b (c_X0_30) (below_alloc _ _))) (frz_b (cell_lt (c_X0_30)) (f_X0_30) (below_alloc _ _)) (drew_below _)) hb; have f_X1_31 := frz_b (cell_lt (cell_b (cell_b (c_X1_30) (below_alloc _ _)) (drew_below _))) (frz_b (cell_lt (cell_b (c_X1_30) (below_alloc _ _))) (frz_b (cell_lt (c_X1_30)) (f_X1_30) (below_alloc _ _)) (drew_below _)) hb; have f_X2_31 := frz_b (cell_lt (cell_b (cell_b (c_X2_30) (below_alloc _ _)) (drew_below _))) (frz_b (cell_lt (cell_b (c_X2_30) (below_alloc _ _))) (frz_b (cell_lt (c_X2_30)) (f_X2_30) (below_alloc _ _)) (drew_below _)) hb; have c_N0_31 := cell_b (p := ⟨w30.heap.size, 0, none⟩) (v := .int .i64 0) (by simp) hb; have f_N0_31 := frz_b (p := ⟨w30.heap.size, 0, none⟩) (by first | omega | (simp; done) | (simp; omega)) (show _ = false by simp) hb; have c_N1_31 := cell_b (p := ⟨w30.heap.size, 1, none⟩) (v := .int .i64 0) (by simp) hb; have f_N1_31 := frz_b (p := ⟨w30.heap.size, 1, none⟩) (by first | omega | (simp; done) | (simp; omega)) (show _ = false by simp) hb; have c_N2_31 := cell_b (p := ⟨w30.heap.size, 2, none⟩) (v := .slice none 0 0) (by simp) hb; have f_N2_31 := frz_b (p := ⟨w30.heap.size, 2, none⟩) (by first | omega | (simp; done) | (simp; omega)) (show _ = false by simp) hb; have r_d_31 := Lib.hid (rdb_b (rdb_b (rdb_b (r_d_30.out) (below_alloc _ _)) (drew_below _)) hb); have T_31 := Lib.hid (below_trans (below_trans (below_trans (T_30.out) (below_alloc _ _)) (drew_below _)) hb); have z_31 : w30.heap.size + 1 ≤ w31.heap.size := (by have := hb.size; (try simp at this); omega); have r_N0_31 := Lib.hid (rdb_mono hN0 (show w30.heap.size + 1 ≤ _ by first | omega | (simp; done) | (simp; omega))); have lr_N0 := Lib.hid (rdb_lo r_N0_31.out); have hr_N0 := Lib.hid (rdb_hi r_N0_31.out); have r_N1_31 := Lib.hid (rdb_mono hN1 (show w30.heap.size + 1 ≤ _ by first | omega | (simp; done) | (simp; omega))); have lr_N1 := Lib.hid (rdb_lo r_N1_31.out); have hr_N1 := Lib.hid (rdb_hi r_N1_31.out); have ac_X0_31 := fun o => cell_b (c_X0_31) (below_alloc _ o); have bc_X0_31 := fun o o1 => cell_b (ac_X0_31 o) (below_alloc _ o1); have ac_X1_31 := fun o => cell_b (c_X1_31) (below_alloc _ o); have bc_X1_31 := fun o o1 => cell_b (ac_X1_31 o) (below_alloc _ o1); have ac_X2_31 := fun o => cell_b (c_X2_31) (below_alloc _ o); have bc_X2_31 := fun o o1 => cell_b (ac_X2_31 o) (below_alloc _ o1); have ac_N0_31 := fun o => cell_b (c_N0_31) (below_alloc _ o); have bc_N0_31 := fun o o1 => cell_b (ac_N0_31 o) (below_alloc _ o1); have ac_N1_31 := fun o => cell_b (c_N1_31) (below_alloc _ o); have bc_N1_31 := fun o o1 => cell_b (ac_N1_31 o) (below_alloc _ o1); have ac_N2_31 := fun o => cell_b (c_N2_31) (below_alloc _ o); have bc_N2_31 := fun o o1 => cell_b (ac_N2_31 o) (below_alloc _ o1); have af_X0_31 := fun o => frz_b (cell_lt (c_X0_31)) (f_X0_31) (below_alloc _ o); have bf_X0_31 := fun o o1 => frz_b (cell_lt (ac_X0_31 o)) (af_X0_31 o) (below_alloc _ o1); have af_X1_31 := fun o => frz_b (cell_lt (c_X1_31)) (f_X1_31) (below_alloc _ o); have bf_X1_31 := fun o o1 => frz_b (cell_lt (ac_X1_31 o)) (af_X1_31 o) (below_alloc _ o1); have af_X2_31 := fun o => frz_b (cell_lt (c_X2_31)) (f_X2_31) (below_alloc _ o); have bf_X2_31 := fun o o1 => frz_b (cell_lt (ac_X2_31 o)) (af_X2_31 o) (below_alloc _ o1); have af_N0_31 := fun o => frz_b (cell_lt (c_N0_31)) (f_N0_31) (below_alloc _ o); have bf_N0_31 := fun o o1 => frz_b (cell_lt (ac_N0_31 o)) (af_N0_31 o) (below_alloc _ o1); have af_N1_31 := fun o => frz_b (cell_lt (c_N1_31)) (f_N1_31) (below_alloc _ o); have bf_N1_31 := fun o o1 => frz_b (cell_lt (ac_N1_31 o)) (af_N1_31 o) (below_alloc _ o1); have af_N2_31 := fun o => frz_b (cell_lt (c_N2_31)) (f_N2_31) (below_alloc _ o); have bf_N2_31 := fun o o1 => frz_b (cell_lt (ac_N2_31 o)) (af_N2_31 o) (below_alloc _ o1); clear hb c_X0_30 c_X1_30 c_X2_30 f_X0_30 f_X1_30 f_X2_30 r_d_30 T_30 ac_X0_30 bc_X0_30 ac_X1_30 bc_X1_30 ac_X2_30 bc_X2_30 af_X0_30 bf_X0_30 af_X1_30 bf_X1_30 af_X2_30 bf_X2_30 hN0 hN1; have way_0 := True.intro) | (go_at_call 16; (with_reducible refine (I_Arrive_q _ ((t : Int)) ((m : Int)) _ (Z) ((k : Int)) ((t : Int)) ((m : Int)) (rg (k + 1)) (([] : List Int)) (true) (k + 1) (0) (rdb_rd (rdb_b (r_d_30.out) (drew_below _))) (by first | omega | (simp; done) | (simp; omega)) HQ51.out HQ52.out HQ53.out HQ54.out HQ55.out (rg_len _) rfl).mono ?_); rintro e w31 ⟨aN0, cN0, aN1, cN1, rfl, hN0, hN1, hb⟩; have c_X0_31 := cell_b (cell_b (c_X0_30) (drew_below _)) hb; have c_X1_31 := cell_b (cell_b (c_X1_30) (drew_below _)) hb; have c_X2_31 := cell_b (cell_b (c_X2_30) (drew_below _)) hb; have f_X0_31 := frz_b (cell_lt (cell_b (c_X0_30) (drew_below _))) (frz_b (cell_lt (c_X0_30)) (f_X0_30) (drew_below _)) hb; have f_X1_31 := frz_b (cell_lt (cell_b (c_X1_30) (drew_below _))) (frz_b (cell_lt (c_X1_30)) (f_X1_30) (drew_below _)) hb; have f_X2_31 := frz_b (cell_lt (cell_b (c_X2_30) (drew_below _))) (frz_b (cell_lt (c_X2_30)) (f_X2_30) (drew_below _)) hb; have r_d_31 := Lib.hid (rdb_b (rdb_b (r_d_30.out) (drew_below _)) hb); have T_31 := Lib.hid (below_trans (below_trans (T_30.out) (drew_below _)) hb); have z_31 : w30.heap.size ≤ w31.heap.size := (by have := hb.size; (try simp at this); omega); have r_N0_31 := Lib.hid (rdb_mono hN0 (show w30.heap.size ≤ _ by first | omega | (simp; done) | (simp; omega))); have lr_N0 := Lib.hid (rdb_lo r_N0_31.out); have hr_N0 := Lib.hid (rdb_hi r_N0_31.out); have r_N1_31 := Lib.hid (rdb_mono hN1 (show w30.heap.size ≤ _ by first | omega | (simp; done) | (simp; omega))); have lr_N1 := Lib.hid (rdb_lo r_N1_31.out); have hr_N1 := Lib.hid (rdb_hi r_N1_31.out); have ac_X0_31 := fun o => cell_b (c_X0_31) (below_alloc _ o); have bc_X0_31 := fun o o1 => cell_b (ac_X0_31 o) (below_alloc _ o1); have ac_X1_31 := fun o => cell_b (c_X1_31) (below_alloc _ o); have bc_X1_31 := fun o o1 => cell_b (ac_X1_31 o) (below_alloc _ o1); have ac_X2_31 := fun o => cell_b (c_X2_31) (below_alloc _ o); have bc_X2_31 := fun o o1 => cell_b (ac_X2_31 o) (below_alloc _ o1); have af_X0_31 := fun o => frz_b (cell_lt (c_X0_31)) (f_X0_31) (below_alloc _ o); have bf_X0_31 := fun o o1 => frz_b (cell_lt (ac_X0_31 o)) (af_X0_31 o) (below_alloc _ o1); have af_X1_31 := fun o => frz_b (cell_lt (c_X1_31)) (f_X1_31) (below_alloc _ o); have bf_X1_31 := fun o o1 => frz_b (cell_lt (ac_X1_31 o)) (af_X1_31 o) (below_alloc _ o1); have af_X2_31 := fun o => frz_b (cell_lt (c_X2_31)) (f_X2_31) (below_alloc _ o); have bf_X2_31 := fun o o1 => frz_b (cell_lt (ac_X2_31 o)) (af_X2_31 o) (below_alloc _ o1); clear hb c_X0_30 c_X1_30 c_X2_30 f_X0_30 f_X1_30 f_X2_30 r_d_30 T_30 ac_X0_30 bc_X0_30 ac_X1_30 bc_X1_30 ac_X2_30 bc_X2_30 af_X0_30 bf_X0_30 af_X1_30 bf_X1_30 af_X2_30 bf_X2_30 hN0 hN1; have way_1 := True.intro))
            all_goals
              first
                | have _way := way_0
                  go_wp2_with fail
                  go_roundw
                  case rel => exact ⟨i + 1, p, m, k + 1, rg (k + 1), aN0, cN0, by go_num, by first | rfl | simp, by omega, HP.out, .inl ⟨hm3, hpt, by omega⟩, rfl, by rw [rg_len]; omega, cell_set (p := ⟨w2.heap.size, 2, none⟩) (cell_set (p := ⟨w2.heap.size, 1, none⟩) (World.cell?_setCell_same _ _ _ (cell_set (p := ⟨w30.heap.size, 2, none⟩) (cell_set (p := ⟨w30.heap.size, 1, none⟩) (cell_set (p := ⟨w30.heap.size, 0, none⟩) (c_X0_31) (ne_blk (by omega))) (ne_blk (by omega))) (ne_blk (by omega)))) (ne_off (by decide))) (ne_off (by decide)), cell_set (p := ⟨w2.heap.size, 2, none⟩) (World.cell?_setCell_same _ _ _ (cell_set (p := ⟨w2.heap.size, 0, none⟩) (cell_set (p := ⟨w30.heap.size, 2, none⟩) (cell_set (p := ⟨w30.heap.size, 1, none⟩) (cell_set (p := ⟨w30.heap.size, 0, none⟩) (c_X1_31) (ne_blk (by omega))) (ne_blk (by omega))) (ne_blk (by omega))) (ne_off (by decide)))) (ne_off (by decide)), (by rw [rg_len]; exact World.cell?_setCell_same _ _ _ (cell_set (p := ⟨w2.heap.size, 1, none⟩) (cell_set (p := ⟨w2.heap.size, 0, none⟩) (cell_set (p := ⟨w30.heap.size, 2, none⟩) (cell_set (p := ⟨w30.heap.size, 1, none⟩) (cell_set (p := ⟨w30.heap.size, 0, none⟩) (c_X2_31) (ne_blk (by omega))) (ne_blk (by omega))) (ne_blk (by omega))) (ne_off (by decide))) (ne_off (by decide)))), (World.frozen?_setCell _ _ _ _).trans ((World.frozen?_setCell _ _ _ _).trans ((World.frozen?_setCell _ _ _ _).trans ((World.frozen?_setCell _ _ _ _).trans ((World.frozen?_setCell _ _ _ _).trans ((World.frozen?_setCell _ _ _ _).trans (f_X0_31)))))), (World.frozen?_setCell _ _ _ _).trans ((World.frozen?_setCell _ _ _ _).trans ((World.frozen?_setCell _ _ _ _).trans ((World.frozen?_setCell _ _ _ _).trans ((World.frozen?_setCell _ _ _ _).trans ((World.frozen?_setCell _ _ _ _).trans (f_X1_31)))))), (World.frozen?_setCell _ _ _ _).trans ((World.frozen?_setCell _ _ _ _).trans ((World.frozen?_setCell _ _ _ _).trans ((World.frozen?_setCell _ _ _ _).trans ((World.frozen?_setCell _ _ _ _).trans ((World.frozen?_setCell _ _ _ _).trans (f_X2_31)))))), (by rw [rg_len]; exact rdb_mono (rdb_set (p := ⟨w2.heap.size, 2, none⟩) (rdb_set (p := ⟨w2.heap.size, 1, none⟩) (rdb_set (p := ⟨w2.heap.size, 0, none⟩) (rdb_set (p := ⟨w30.heap.size, 2, none⟩) (rdb_set (p := ⟨w30.heap.size, 1, none⟩) (rdb_set (p := ⟨w30.heap.size, 0, none⟩) (r_N0_31.out) (fun g h => by have h1 := lr_N0.out g h; have h2 := hr_N0.out g h; show g ≠ w30.heap.size; omega) _) (fun g h => by have h1 := lr_N0.out g h; have h2 := hr_N0.out g h; show g ≠ w30.heap.size; omega) _) (fun g h => by have h1 := lr_N0.out g h; have h2 := hr_N0.out g h; show g ≠ w30.heap.size; omega) _) (fun g h => by have h1 := lr_N0.out g h; have h2 := hr_N0.out g h; show g ≠ w2.heap.size; omega) _) (fun g h => by have h1 := lr_N0.out g h; have h2 := hr_N0.out g h; show g ≠ w2.heap.size; omega) _) (fun g h => by have h1 := lr_N0.out g h; have h2 := hr_N0.out g h; show g ≠ w2.heap.size; omega) _) (by omega)), (((((((T_31.out).setCell (p := ⟨w30.heap.size, 0, none⟩) (by show w.heap.size ≤ w30.heap.size; omega) _).setCell (p := ⟨w30.heap.size, 1, none⟩) (by show w.heap.size ≤ w30.heap.size; omega) _).setCell (p := ⟨w30.heap.size, 2, none⟩) (by show w.heap.size ≤ w30.heap.size; omega) _).setCell (p := ⟨w2.heap.size, 0, none⟩) (by show w.heap.size ≤ w2.heap.size; omega) _).setCell (p := ⟨w2.heap.size, 1, none⟩) (by show w.heap.size ≤ w2.heap.size; omega) _).setCell (p := ⟨w2.heap.size, 2, none⟩) (by show w.heap.size ≤ w2.heap.size; omega) _), Nat.lt_of_lt_of_le (show w2.heap.size < w31.heap.size by omega) (by first | (simp; done) | (simp; omega))⟩
                  case measure => simp [intOf]; omega
                | have _way := way_1
                  go_wp2_with fail
                  go_roundw
                  case rel => exact ⟨i + 1, p, m, k + 1, rg (k + 1), aN0, cN0, by go_num, by first | rfl | simp, by omega, HP.out, .inl ⟨hm3, hpt, by omega⟩, rfl, by rw [rg_len]; omega, cell_set (p := ⟨w2.heap.size, 2, none⟩) (cell_set (p := ⟨w2.heap.size, 1, none⟩) (World.cell?_setCell_same _ _ _ (cell_b (c_X0_31) (below_alloc _ _))) (ne_off (by decide))) (ne_off (by decide)), cell_set (p := ⟨w2.heap.size, 2, none⟩) (World.cell?_setCell_same _ _ _ (cell_set (p := ⟨w2.heap.size, 0, none⟩) (cell_b (c_X1_31) (below_alloc _ _)) (ne_off (by decide)))) (ne_off (by decide)), (by rw [rg_len]; exact World.cell?_setCell_same _ _ _ (cell_set (p := ⟨w2.heap.size, 1, none⟩) (cell_set (p := ⟨w2.heap.size, 0, none⟩) (cell_b (c_X2_31) (below_alloc _ _)) (ne_off (by decide))) (ne_off (by decide)))), (World.frozen?_setCell _ _ _ _).trans ((World.frozen?_setCell _ _ _ _).trans ((World.frozen?_setCell _ _ _ _).trans (frz_b (cell_lt (c_X0_31)) (f_X0_31) (below_alloc _ _)))), (World.frozen?_setCell _ _ _ _).trans ((World.frozen?_setCell _ _ _ _).trans ((World.frozen?_setCell _ _ _ _).trans (frz_b (cell_lt (c_X1_31)) (f_X1_31) (below_alloc _ _)))), (World.frozen?_setCell _ _ _ _).trans ((World.frozen?_setCell _ _ _ _).trans ((World.frozen?_setCell _ _ _ _).trans (frz_b (cell_lt (c_X2_31)) (f_X2_31) (below_alloc _ _)))), (by rw [rg_len]; exact rdb_mono (rdb_set (p := ⟨w2.heap.size, 2, none⟩) (rdb_set (p := ⟨w2.heap.size, 1, none⟩) (rdb_set (p := ⟨w2.heap.size, 0, none⟩) (rdb_b (r_N0_31.out) (below_alloc _ _)) (fun g h => by have h1 := lr_N0.out g h; have h2 := hr_N0.out g h; show g ≠ w2.heap.size; omega) _) (fun g h => by have h1 := lr_N0.out g h; have h2 := hr_N0.out g h; show g ≠ w2.heap.size; omega) _) (fun g h => by have h1 := lr_N0.out g h; have h2 := hr_N0.out g h; show g ≠ w2.heap.size; omega) _) (by omega)), ((((below_trans (T_31.out) (below_alloc _ _)).setCell (p := ⟨w2.heap.size, 0, none⟩) (by show w.heap.size ≤ w2.heap.size; omega) _).setCell (p := ⟨w2.heap.size, 1, none⟩) (by show w.heap.size ≤ w2.heap.size; omega) _).setCell (p := ⟨w2.heap.size, 2, none⟩) (by show w.heap.size ≤ w2.heap.size; omega) _), Nat.lt_of_lt_of_le (show w2.heap.size < w31.heap.size by omega) (by first | (simp; done) | (simp; omega))⟩
                  case measure => simp [intOf]; omega
          · have HQ : Hid (k + 1 = t) := Lib.hid (by omega)
            have hq1 : t ≤ k + 1 := by omega
            have HB : Hid (arr (t : Int) (m : Int) Z (k : Int) = ((t : Int), (m : Int) + 1, ([] : List Int), rg (k + 1), true)) := Lib.hid (by rw [HA.out, if_neg hl2])
            have HQ51 : Hid ((arr (t : Int) (m : Int) Z (k : Int)).1 = (t : Int)) := Lib.hid (by rw [HB.out])
            have HQ52 : Hid ((arr (t : Int) (m : Int) Z (k : Int)).2.1 = (m : Int) + 1) := Lib.hid (by rw [HB.out])
            have HQ53 : Hid ((arr (t : Int) (m : Int) Z (k : Int)).2.2.1 = ([] : List Int)) := Lib.hid (by rw [HB.out])
            have HQ54 : Hid ((arr (t : Int) (m : Int) Z (k : Int)).2.2.2.1 = rg (k + 1)) := Lib.hid (by rw [HB.out])
            have HQ55 : Hid ((arr (t : Int) (m : Int) Z (k : Int)).2.2.2.2 = true) := Lib.hid (by rw [HB.out])
            have hnz : ¬ t = 0 := by omega
            have t1 : (i : Int).tmod (t : Int) = (k : Int) := by rw [← Int.ofNat_tmod]; rw [HM.out]
            have t2 : (i : Int) % (t : Int) = (k : Int) := by rw [← Int.natCast_emod]; rw [HM.out]
            have ac_X0_30 := fun o => cell_b (c_X0_30) (below_alloc _ o)
            have bc_X0_30 := fun o o1 => cell_b (ac_X0_30 o) (below_alloc _ o1)
            have ac_X1_30 := fun o => cell_b (c_X1_30) (below_alloc _ o)
            have bc_X1_30 := fun o o1 => cell_b (ac_X1_30 o) (below_alloc _ o1)
            have ac_X2_30 := fun o => cell_b (c_X2_30) (below_alloc _ o)
            have bc_X2_30 := fun o o1 => cell_b (ac_X2_30 o) (below_alloc _ o1)
            have af_X0_30 := fun o => frz_b (cell_lt (c_X0_30)) (f_X0_30) (below_alloc _ o)
            have bf_X0_30 := fun o o1 => frz_b (cell_lt (ac_X0_30 o)) (af_X0_30 o) (below_alloc _ o1)
            have af_X1_30 := fun o => frz_b (cell_lt (c_X1_30)) (f_X1_30) (below_alloc _ o)
            have bf_X1_30 := fun o o1 => frz_b (cell_lt (ac_X1_30 o)) (af_X1_30 o) (below_alloc _ o1)
            have af_X2_30 := fun o => frz_b (cell_lt (c_X2_30)) (f_X2_30) (below_alloc _ o)
            have bf_X2_30 := fun o o1 => frz_b (cell_lt (ac_X2_30 o)) (af_X2_30 o) (below_alloc _ o1)
            go_wp2_with fail
            go_region_held3 (fun w' => w'.cell? ⟨w2.heap.size, 0, none⟩ = some (.int .i64 (t : Int)) ∧ w'.cell? ⟨w2.heap.size, 1, none⟩ = some (.int .i64 (m : Int)) ∧ w'.cell? ⟨w2.heap.size, 2, none⟩ = some (.slice ad Z.length cd)) (first | with_reducible exact ⟨c_X0_30, c_X1_30, c_X2_30⟩ | with_reducible exact ⟨cell_b (c_X0_30) (below_alloc _ _), cell_b (c_X1_30) (below_alloc _ _), cell_b (c_X2_30) (below_alloc _ _)⟩ | with_reducible exact ⟨cell_b (cell_b (c_X0_30) (below_alloc _ _)) (drew_below _), cell_b (cell_b (c_X1_30) (below_alloc _ _)) (drew_below _), cell_b (cell_b (c_X2_30) (below_alloc _ _)) (drew_below _)⟩ | with_reducible exact ⟨c_X0_31, c_X1_31, c_X2_31⟩ | with_reducible exact ⟨cell_set (p := ⟨w30.heap.size, 2, none⟩) (cell_set (p := ⟨w30.heap.size, 1, none⟩) (cell_set (p := ⟨w30.heap.size, 0, none⟩) (c_X0_31) (ne_blk (by omega))) (ne_blk (by omega))) (ne_blk (by omega)), cell_set (p := ⟨w30.heap.size, 2, none⟩) (cell_set (p := ⟨w30.heap.size, 1, none⟩) (cell_set (p := ⟨w30.heap.size, 0, none⟩) (c_X1_31) (ne_blk (by omega))) (ne_blk (by omega))) (ne_blk (by omega)), cell_set (p := ⟨w30.heap.size, 2, none⟩) (cell_set (p := ⟨w30.heap.size, 1, none⟩) (cell_set (p := ⟨w30.heap.size, 0, none⟩) (c_X2_31) (ne_blk (by omega))) (ne_blk (by omega))) (ne_blk (by omega))⟩ | with_reducible exact ⟨cell_b (c_X0_30) (drew_below _), cell_b (c_X1_30) (drew_below _), cell_b (c_X2_30) (drew_below _)⟩ | with_reducible exact ⟨cell_b (c_X0_31) (below_alloc _ _), cell_b (c_X1_31) (below_alloc _ _), cell_b (c_X2_31) (below_alloc _ _)⟩ | go_keep)
                (first | (go_at_call 16; (with_reducible refine (I_Arrive_q _ ((t : Int)) ((m : Int)) _ (Z) ((k : Int)) ((t : Int)) ((m : Int) + 1) (([] : List Int)) (rg (k + 1)) (true) (0) (t) (rdb_rd (rdb_b (rdb_b (r_d_30.out) (below_alloc _ _)) (drew_below _))) (by first | omega | (simp; done) | (simp; omega)) HQ51.out HQ52.out HQ53.out HQ54.out HQ55.out rfl (by rw [rg_len]; exact HQ.out)).mono ?_); rintro e w31 ⟨aN0, cN0, aN1, cN1, rfl, hN0, hN1, hb⟩; have c_X0_31 := cell_b (cell_b (cell_b (c_X0_30) (below_alloc _ _)) (drew_below _)) hb; have c_X1_31 := cell_b (cell_b (cell_b (c_X1_30) (below_alloc _ _)) (drew_below _)) hb; have c_X2_31 := cell_b (cell_b (cell_b (c_X2_30) (below_alloc _ _)) (drew_below _)) hb; have f_X0_31 := frz_b (cell_lt (cell_b (cell_b (c_X0_30) (below_alloc _ _)) (drew_below _))) (frz_b (cell_lt (cell_b (c_X0_30) (below_alloc _ _))) (frz_b (cell_lt (c_X0_30)) (f_X0_30) (below_alloc _ _)) (drew_below _)) hb; have f_X1_31 := frz_b (cell_lt (cell_b (cell_b (c_X1_30) (below_alloc _ _)) (drew_below _))) (frz_b (cell_lt (cell_b (c_X1_30) (below_alloc _ _))) (frz_b (cell_lt (c_X1_30)) (f_X1_30) (below_alloc _ _)) (drew_below _)) hb; have f_X2_31 := frz_b (cell_lt (cell_b (cell_b (c_X2_30) (below_alloc _ _)) (drew_below _))) (frz_b (cell_lt (cell_b (c_X2_30) (below_alloc _ _))) (frz_b (cell_lt (c_X2_30)) (f_X2_30) (below_alloc _ _)) (drew_below _)) hb; have c_N0_31 := cell_b (p := ⟨w30.heap.size, 0, none⟩) (v := .int .i64 0) (by simp) hb; have f_N0_31 := frz_b (p := ⟨w30.heap.size, 0, none⟩) (by first | omega | (simp; done) | (simp; omega)) (show _ = false by simp) hb; have c_N1_31 := cell_b (p := ⟨w30.heap.size, 1, none⟩) (v := .int .i64 0) (by simp) hb; have f_N1_31 := frz_b (p := ⟨w30.heap.size, 1, none⟩) (by first | omega | (simp; done) | (simp; omega)) (show _ = false by simp) hb; have c_N2_31 := cell_b (p := ⟨w30.heap.size, 2, none⟩) (v := .slice none 0 0) (by simp) hb; have f_N2_31 := frz_b (p := ⟨w30.heap.size, 2, none⟩) (by first | omega | (simp; done) | (simp; omega)) (show _ = false by simp) hb; have r_d_31 := Lib.hid (rdb_b (rdb_b (rdb_b (r_d_30.out) (below_alloc _ _)) (drew_below _)) hb); have T_31 := Lib.hid (below_trans (below_trans (below_trans (T_30.out) (below_alloc _ _)) (drew_below _)) hb); have z_31 : w30.heap.size + 1 ≤ w31.heap.size := (by have := hb.size; (try simp at this); omega); have r_N0_31 := Lib.hid (rdb_mono hN0 (show w30.heap.size + 1 ≤ _ by first | omega | (simp; done) | (simp; omega))); have lr_N0 := Lib.hid (rdb_lo r_N0_31.out); have hr_N0 := Lib.hid (rdb_hi r_N0_31.out); have r_N1_31 := Lib.hid (rdb_mono hN1 (show w30.heap.size + 1 ≤ _ by first | omega | (simp; done) | (simp; omega))); have lr_N1 := Lib.hid (rdb_lo r_N1_31.out); have hr_N1 := Lib.hid (rdb_hi r_N1_31.out); have ac_X0_31 := fun o => cell_b (c_X0_31) (below_alloc _ o); have bc_X0_31 := fun o o1 => cell_b (ac_X0_31 o) (below_alloc _ o1); have ac_X1_31 := fun o => cell_b (c_X1_31) (below_alloc _ o); have bc_X1_31 := fun o o1 => cell_b (ac_X1_31 o) (below_alloc _ o1); have ac_X2_31 := fun o => cell_b (c_X2_31) (below_alloc _ o); have bc_X2_31 := fun o o1 => cell_b (ac_X2_31 o) (below_alloc _ o1); have ac_N0_31 := fun o => cell_b (c_N0_31) (below_alloc _ o); have bc_N0_31 := fun o o1 => cell_b (ac_N0_31 o) (below_alloc _ o1); have ac_N1_31 := fun o => cell_b (c_N1_31) (below_alloc _ o); have bc_N1_31 := fun o o1 => cell_b (ac_N1_31 o) (below_alloc _ o1); have ac_N2_31 := fun o => cell_b (c_N2_31) (below_alloc _ o); have bc_N2_31 := fun o o1 => cell_b (ac_N2_31 o) (below_alloc _ o1); have af_X0_31 := fun o => frz_b (cell_lt (c_X0_31)) (f_X0_31) (below_alloc _ o); have bf_X0_31 := fun o o1 => frz_b (cell_lt (ac_X0_31 o)) (af_X0_31 o) (below_alloc _ o1); have af_X1_31 := fun o => frz_b (cell_lt (c_X1_31)) (f_X1_31) (below_alloc _ o); have bf_X1_31 := fun o o1 => frz_b (cell_lt (ac_X1_31 o)) (af_X1_31 o) (below_alloc _ o1); have af_X2_31 := fun o => frz_b (cell_lt (c_X2_31)) (f_X2_31) (below_alloc _ o); have bf_X2_31 := fun o o1 => frz_b (cell_lt (ac_X2_31 o)) (af_X2_31 o) (below_alloc _ o1); have af_N0_31 := fun o => frz_b (cell_lt (c_N0_31)) (f_N0_31) (below_alloc _ o); have bf_N0_31 := fun o o1 => frz_b (cell_lt (ac_N0_31 o)) (af_N0_31 o) (below_alloc _ o1); have af_N1_31 := fun o => frz_b (cell_lt (c_N1_31)) (f_N1_31) (below_alloc _ o); have bf_N1_31 := fun o o1 => frz_b (cell_lt (ac_N1_31 o)) (af_N1_31 o) (below_alloc _ o1); have af_N2_31 := fun o => frz_b (cell_lt (c_N2_31)) (f_N2_31) (below_alloc _ o); have bf_N2_31 := fun o o1 => frz_b (cell_lt (ac_N2_31 o)) (af_N2_31 o) (below_alloc _ o1); clear hb c_X0_30 c_X1_30 c_X2_30 f_X0_30 f_X1_30 f_X2_30 r_d_30 T_30 ac_X0_30 bc_X0_30 ac_X1_30 bc_X1_30 ac_X2_30 bc_X2_30 af_X0_30 bf_X0_30 af_X1_30 bf_X1_30 af_X2_30 bf_X2_30 hN0 hN1; have way_0 := True.intro) | (go_at_call 16; (with_reducible refine (I_Arrive_q _ ((t : Int)) ((m : Int)) _ (Z) ((k : Int)) ((t : Int)) ((m : Int) + 1) (([] : List Int)) (rg (k + 1)) (true) (0) (t) (rdb_rd (rdb_b (r_d_30.out) (drew_below _))) (by first | omega | (simp; done) | (simp; omega)) HQ51.out HQ52.out HQ53.out HQ54.out HQ55.out rfl (by rw [rg_len]; exact HQ.out)).mono ?_); rintro e w31 ⟨aN0, cN0, aN1, cN1, rfl, hN0, hN1, hb⟩; have c_X0_31 := cell_b (cell_b (c_X0_30) (drew_below _)) hb; have c_X1_31 := cell_b (cell_b (c_X1_30) (drew_below _)) hb; have c_X2_31 := cell_b (cell_b (c_X2_30) (drew_below _)) hb; have f_X0_31 := frz_b (cell_lt (cell_b (c_X0_30) (drew_below _))) (frz_b (cell_lt (c_X0_30)) (f_X0_30) (drew_below _)) hb; have f_X1_31 := frz_b (cell_lt (cell_b (c_X1_30) (drew_below _))) (frz_b (cell_lt (c_X1_30)) (f_X1_30) (drew_below _)) hb; have f_X2_31 := frz_b (cell_lt (cell_b (c_X2_30) (drew_below _))) (frz_b (cell_lt (c_X2_30)) (f_X2_30) (drew_below _)) hb; have r_d_31 := Lib.hid (rdb_b (rdb_b (r_d_30.out) (drew_below _)) hb); have T_31 := Lib.hid (below_trans (below_trans (T_30.out) (drew_below _)) hb); have z_31 : w30.heap.size ≤ w31.heap.size := (by have := hb.size; (try simp at this); omega); have r_N0_31 := Lib.hid (rdb_mono hN0 (show w30.heap.size ≤ _ by first | omega | (simp; done) | (simp; omega))); have lr_N0 := Lib.hid (rdb_lo r_N0_31.out); have hr_N0 := Lib.hid (rdb_hi r_N0_31.out); have r_N1_31 := Lib.hid (rdb_mono hN1 (show w30.heap.size ≤ _ by first | omega | (simp; done) | (simp; omega))); have lr_N1 := Lib.hid (rdb_lo r_N1_31.out); have hr_N1 := Lib.hid (rdb_hi r_N1_31.out); have ac_X0_31 := fun o => cell_b (c_X0_31) (below_alloc _ o); have bc_X0_31 := fun o o1 => cell_b (ac_X0_31 o) (below_alloc _ o1); have ac_X1_31 := fun o => cell_b (c_X1_31) (below_alloc _ o); have bc_X1_31 := fun o o1 => cell_b (ac_X1_31 o) (below_alloc _ o1); have ac_X2_31 := fun o => cell_b (c_X2_31) (below_alloc _ o); have bc_X2_31 := fun o o1 => cell_b (ac_X2_31 o) (below_alloc _ o1); have af_X0_31 := fun o => frz_b (cell_lt (c_X0_31)) (f_X0_31) (below_alloc _ o); have bf_X0_31 := fun o o1 => frz_b (cell_lt (ac_X0_31 o)) (af_X0_31 o) (below_alloc _ o1); have af_X1_31 := fun o => frz_b (cell_lt (c_X1_31)) (f_X1_31) (below_alloc _ o); have bf_X1_31 := fun o o1 => frz_b (cell_lt (ac_X1_31 o)) (af_X1_31 o) (below_alloc _ o1); have af_X2_31 := fun o => frz_b (cell_lt (c_X2_31)) (f_X2_31) (below_alloc _ o); have bf_X2_31 := fun o o1 => frz_b (cell_lt (ac_X2_31 o)) (af_X2_31 o) (below_alloc _ o1); clear hb c_X0_30 c_X1_30 c_X2_30 f_X0_30 f_X1_30 f_X2_30 r_d_30 T_30 ac_X0_30 bc_X0_30 ac_X1_30 bc_X1_30 ac_X2_30 bc_X2_30 af_X0_30 bf_X0_30 af_X1_30 bf_X1_30 af_X2_30 bf_X2_30 hN0 hN1; have way_1 := True.intro))
            all_goals
              first
                | have _way := way_0
                  go_wp2_with fail
                  go_roundw
                  case rel => exact ⟨i + 1, p + t, m + 1, 0, [], aN0, cN0, by go_num, by go_num, by omega, HU.out, (by by_cases h9 : m + 1 < 3; (exact .inl ⟨h9, br_lt HP.out h9, by omega⟩); (exact .inr ⟨by omega, br_three HP.out hm3 h9, rfl⟩)), rfl, by simp, cell_set (p := ⟨w2.heap.size, 2, none⟩) (cell_set (p := ⟨w2.heap.size, 1, none⟩) (World.cell?_setCell_same _ _ _ (cell_set (p := ⟨w30.heap.size, 2, none⟩) (cell_set (p := ⟨w30.heap.size, 1, none⟩) (cell_set (p := ⟨w30.heap.size, 0, none⟩) (c_X0_31) (ne_blk (by omega))) (ne_blk (by omega))) (ne_blk (by omega)))) (ne_off (by decide))) (ne_off (by decide)), (by push_cast; exact cell_set (p := ⟨w2.heap.size, 2, none⟩) (World.cell?_setCell_same _ _ _ (cell_set (p := ⟨w2.heap.size, 0, none⟩) (cell_set (p := ⟨w30.heap.size, 2, none⟩) (cell_set (p := ⟨w30.heap.size, 1, none⟩) (cell_set (p := ⟨w30.heap.size, 0, none⟩) (c_X1_31) (ne_blk (by omega))) (ne_blk (by omega))) (ne_blk (by omega))) (ne_off (by decide)))) (ne_off (by decide))), (by rw [List.length_nil]; exact World.cell?_setCell_same _ _ _ (cell_set (p := ⟨w2.heap.size, 1, none⟩) (cell_set (p := ⟨w2.heap.size, 0, none⟩) (cell_set (p := ⟨w30.heap.size, 2, none⟩) (cell_set (p := ⟨w30.heap.size, 1, none⟩) (cell_set (p := ⟨w30.heap.size, 0, none⟩) (c_X2_31) (ne_blk (by omega))) (ne_blk (by omega))) (ne_blk (by omega))) (ne_off (by decide))) (ne_off (by decide)))), (World.frozen?_setCell _ _ _ _).trans ((World.frozen?_setCell _ _ _ _).trans ((World.frozen?_setCell _ _ _ _).trans ((World.frozen?_setCell _ _ _ _).trans ((World.frozen?_setCell _ _ _ _).trans ((World.frozen?_setCell _ _ _ _).trans (f_X0_31)))))), (World.frozen?_setCell _ _ _ _).trans ((World.frozen?_setCell _ _ _ _).trans ((World.frozen?_setCell _ _ _ _).trans ((World.frozen?_setCell _ _ _ _).trans ((World.frozen?_setCell _ _ _ _).trans ((World.frozen?_setCell _ _ _ _).trans (f_X1_31)))))), (World.frozen?_setCell _ _ _ _).trans ((World.frozen?_setCell _ _ _ _).trans ((World.frozen?_setCell _ _ _ _).trans ((World.frozen?_setCell _ _ _ _).trans ((World.frozen?_setCell _ _ _ _).trans ((World.frozen?_setCell _ _ _ _).trans (f_X2_31)))))), (by rw [List.length_nil]; exact rdb_mono (rdb_set (p := ⟨w2.heap.size, 2, none⟩) (rdb_set (p := ⟨w2.heap.size, 1, none⟩) (rdb_set (p := ⟨w2.heap.size, 0, none⟩) (rdb_set (p := ⟨w30.heap.size, 2, none⟩) (rdb_set (p := ⟨w30.heap.size, 1, none⟩) (rdb_set (p := ⟨w30.heap.size, 0, none⟩) (r_N0_31.out) (fun g h => by have h1 := lr_N0.out g h; have h2 := hr_N0.out g h; show g ≠ w30.heap.size; omega) _) (fun g h => by have h1 := lr_N0.out g h; have h2 := hr_N0.out g h; show g ≠ w30.heap.size; omega) _) (fun g h => by have h1 := lr_N0.out g h; have h2 := hr_N0.out g h; show g ≠ w30.heap.size; omega) _) (fun g h => by have h1 := lr_N0.out g h; have h2 := hr_N0.out g h; show g ≠ w2.heap.size; omega) _) (fun g h => by have h1 := lr_N0.out g h; have h2 := hr_N0.out g h; show g ≠ w2.heap.size; omega) _) (fun g h => by have h1 := lr_N0.out g h; have h2 := hr_N0.out g h; show g ≠ w2.heap.size; omega) _) (by omega)), (((((((T_31.out).setCell (p := ⟨w30.heap.size, 0, none⟩) (by show w.heap.size ≤ w30.heap.size; omega) _).setCell (p := ⟨w30.heap.size, 1, none⟩) (by show w.heap.size ≤ w30.heap.size; omega) _).setCell (p := ⟨w30.heap.size, 2, none⟩) (by show w.heap.size ≤ w30.heap.size; omega) _).setCell (p := ⟨w2.heap.size, 0, none⟩) (by show w.heap.size ≤ w2.heap.size; omega) _).setCell (p := ⟨w2.heap.size, 1, none⟩) (by show w.heap.size ≤ w2.heap.size; omega) _).setCell (p := ⟨w2.heap.size, 2, none⟩) (by show w.heap.size ≤ w2.heap.size; omega) _), Nat.lt_of_lt_of_le (show w2.heap.size < w31.heap.size by omega) (by first | (simp; done) | (simp; omega))⟩
                  case measure => simp [intOf]; omega
                | have _way := way_1
                  go_wp2_with fail
                  go_roundw
                  case rel => exact ⟨i + 1, p + t, m + 1, 0, [], aN0, cN0, by go_num, by go_num, by omega, HU.out, (by by_cases h9 : m + 1 < 3; (exact .inl ⟨h9, br_lt HP.out h9, by omega⟩); (exact .inr ⟨by omega, br_three HP.out hm3 h9, rfl⟩)), rfl, by simp, cell_set (p := ⟨w2.heap.size, 2, none⟩) (cell_set (p := ⟨w2.heap.size, 1, none⟩) (World.cell?_setCell_same _ _ _ (cell_b (c_X0_31) (below_alloc _ _))) (ne_off (by decide))) (ne_off (by decide)), (by push_cast; exact cell_set (p := ⟨w2.heap.size, 2, none⟩) (World.cell?_setCell_same _ _ _ (cell_set (p := ⟨w2.heap.size, 0, none⟩) (cell_b (c_X1_31) (below_alloc _ _)) (ne_off (by decide)))) (ne_off (by decide))), (by rw [List.length_nil]; exact World.cell?_setCell_same _ _ _ (cell_set (p := ⟨w2.heap.size, 1, none⟩) (cell_set (p := ⟨w2.heap.size, 0, none⟩) (cell_b (c_X2_31) (below_alloc _ _)) (ne_off (by decide))) (ne_off (by decide)))), (World.frozen?_setCell _ _ _ _).trans ((World.frozen?_setCell _ _ _ _).trans ((World.frozen?_setCell _ _ _ _).trans (frz_b (cell_lt (c_X0_31)) (f_X0_31) (below_alloc _ _)))), (World.frozen?_setCell _ _ _ _).trans ((World.frozen?_setCell _ _ _ _).trans ((World.frozen?_setCell _ _ _ _).trans (frz_b (cell_lt (c_X1_31)) (f_X1_31) (below_alloc _ _)))), (World.frozen?_setCell _ _ _ _).trans ((World.frozen?_setCell _ _ _ _).trans ((World.frozen?_setCell _ _ _ _).trans (frz_b (cell_lt (c_X2_31)) (f_X2_31) (below_alloc _ _)))), (by rw [List.length_nil]; exact rdb_mono (rdb_set (p := ⟨w2.heap.size, 2, none⟩) (rdb_set (p := ⟨w2.heap.size, 1, none⟩) (rdb_set (p := ⟨w2.heap.size, 0, none⟩) (rdb_b (r_N0_31.out) (below_alloc _ _)) (fun g h => by have h1 := lr_N0.out g h; have h2 := hr_N0.out g h; show g ≠ w2.heap.size; omega) _) (fun g h => by have h1 := lr_N0.out g h; have h2 := hr_N0.out g h; show g ≠ w2.heap.size; omega) _) (fun g h => by have h1 := lr_N0.out g h; have h2 := hr_N0.out g h; show g ≠ w2.heap.size; omega) _) (by omega)), ((((below_trans (T_31.out) (below_alloc _ _)).setCell (p := ⟨w2.heap.size, 0, none⟩) (by show w.heap.size ≤ w2.heap.size; omega) _).setCell (p := ⟨w2.heap.size, 1, none⟩) (by show w.heap.size ≤ w2.heap.size; omega) _).setCell (p := ⟨w2.heap.size, 2, none⟩) (by show w.heap.size ≤ w2.heap.size; omega) _), Nat.lt_of_lt_of_le (show w2.heap.size < w31.heap.size by omega) (by first | (simp; done) | (simp; omega))⟩
                  case measure => simp [intOf]; omega
        · subst hm3
          subst hk0
          have hZ0 : Z = [] := HZ.out
          subst hZ0
          have hq5 : ((p : Int) == 3 * (t : Int)) = true := by simp; omega
          have hp1 : 3 * t ≤ p := by omega
          have hp2 : p ≤ 3 * t := by omega
          clear hpt
          go_wp2_with fail
          go_ret
          exact ⟨rfl, (T_30.out)⟩
    · have HV1 : Hid (nbOk t0 = false) := Lib.hid (by simpa using hok)
      clear hok
      have HQ1 : Hid (nbP t0 = 0) := Lib.hid (by simp [nbP, HV1.out])
      have HQ2 : Hid (nbOk t0 = false) := Lib.hid (HV1.out)
      go_wp2_with fail
      (with_reducible refine (I_NewBarrier_q _ (t0) (0) (0) (([] : List Int)) (false) (0) HQ1.out rfl rfl HQ2.out rfl).mono ?_)
      rintro e w2 ⟨aX0, cX0, rfl, hX0, hb⟩
      have T_2 := Lib.hid (below_trans (T_1.out) hb)
      have z_2 : w1.heap.size ≤ w2.heap.size := (by have := hb.size; (try simp at this); omega)
      have r_X0_2 := Lib.hid (rdb_mono hX0 (show w1.heap.size ≤ _ by first | omega | (simp; done) | (simp; omega)))
      have lr_X0 := Lib.hid (rdb_lo r_X0_2.out)
      have hr_X0 := Lib.hid (rdb_hi r_X0_2.out)
      clear hb T_1 hX0
      go_wp2_with fail
      (with_reducible refine (S_NewBarrier_q _ (t0) (0) (0) (([] : List Int)) (false) (0) HQ1.out rfl rfl HQ2.out rfl).mono ?_)
      rintro e w3 ⟨aY0, cY0, rfl, hY0, hb⟩
      have c_X0_3 := cell_b (p := ⟨w2.heap.size, 0, none⟩) (v := .int .i64 (0)) (by simp) hb
      have f_X0_3 := frz_b (p := ⟨w2.heap.size, 0, none⟩) (by first | omega | (simp; done) | (simp; omega)) (show _ = false by simp) hb
      have c_X1_3 := cell_b (p := ⟨w2.heap.size, 1, none⟩) (v := .int .i64 (0)) (by simp) hb
      have f_X1_3 := frz_b (p := ⟨w2.heap.size, 1, none⟩) (by first | omega | (simp; done) | (simp; omega)) (show _ = false by simp) hb
      have c_X2_3 := cell_b (p := ⟨w2.heap.size, 2, none⟩) (v := .slice aX0 (0) cX0) (by simp) hb
      have f_X2_3 := frz_b (p := ⟨w2.heap.size, 2, none⟩) (by first | omega | (simp; done) | (simp; omega)) (show _ = false by simp) hb
      have r_X0_3 := Lib.hid (rdb_b (rdb_b (r_X0_2.out) (below_alloc _ _)) hb)
      have T_3 := Lib.hid (below_trans (below_trans (T_2.out) (below_alloc _ _)) hb)
      have z_3 : w2.heap.size + 1 ≤ w3.heap.size := (by have := hb.size; (try simp at this); omega)
      have r_Y0_3 := Lib.hid (rdb_mono hY0 (show w2.heap.size + 1 ≤ _ by first | omega | (simp; done) | (simp; omega)))
      have lr_Y0 := Lib.hid (rdb_lo r_Y0_3.out)
      have hr_Y0 := Lib.hid (rdb_hi r_Y0_3.out)
      have ac_X0_3 := fun o => cell_b (c_X0_3) (below_alloc _ o)
      have bc_X0_3 := fun o o1 => cell_b (ac_X0_3 o) (below_alloc _ o1)
      have ac_X1_3 := fun o => cell_b (c_X1_3) (below_alloc _ o)
      have bc_X1_3 := fun o o1 => cell_b (ac_X1_3 o) (below_alloc _ o1)
      have ac_X2_3 := fun o => cell_b (c_X2_3) (below_alloc _ o)
      have bc_X2_3 := fun o o1 => cell_b (ac_X2_3 o) (below_alloc _ o1)
      have af_X0_3 := fun o => frz_b (cell_lt (c_X0_3)) (f_X0_3) (below_alloc _ o)
      have bf_X0_3 := fun o o1 => frz_b (cell_lt (ac_X0_3 o)) (af_X0_3 o) (below_alloc _ o1)
      have af_X1_3 := fun o => frz_b (cell_lt (c_X1_3)) (f_X1_3) (below_alloc _ o)
      have bf_X1_3 := fun o o1 => frz_b (cell_lt (ac_X1_3 o)) (af_X1_3 o) (below_alloc _ o1)
      have af_X2_3 := fun o => frz_b (cell_lt (c_X2_3)) (f_X2_3) (below_alloc _ o)
      have bf_X2_3 := fun o o1 => frz_b (cell_lt (ac_X2_3 o)) (af_X2_3 o) (below_alloc _ o1)
      clear hb r_X0_2 T_2 hY0
      go_wp2_with fail
      (with_reducible refine (L_wkBarrier _ 0 0 _ _ (([] : List Int)) (rdb_rd (rdb_b (r_X0_3.out) (below_alloc _ _))) (rdb_rd (rdb_b (r_Y0_3.out) (below_alloc _ _))) (by first | omega | (simp; done) | (simp; omega))).mono ?_)
      rintro e w4 ⟨rfl, hb⟩
      have c_X0_4 := cell_b (cell_b (c_X0_3) (below_alloc _ _)) hb
      have c_X1_4 := cell_b (cell_b (c_X1_3) (below_alloc _ _)) hb
      have c_X2_4 := cell_b (cell_b (c_X2_3) (below_alloc _ _)) hb
      have f_X0_4 := frz_b (cell_lt (cell_b (c_X0_3) (below_alloc _ _))) (frz_b (cell_lt (c_X0_3)) (f_X0_3) (below_alloc _ _)) hb
      have f_X1_4 := frz_b (cell_lt (cell_b (c_X1_3) (below_alloc _ _))) (frz_b (cell_lt (c_X1_3)) (f_X1_3) (below_alloc _ _)) hb
      have f_X2_4 := frz_b (cell_lt (cell_b (c_X2_3) (below_alloc _ _))) (frz_b (cell_lt (c_X2_3)) (f_X2_3) (below_alloc _ _)) hb
      have c_Y0_4 := cell_b (p := ⟨w3.heap.size, 0, none⟩) (v := .int .i64 (0)) (by simp) hb
      have c_Y1_4 := cell_b (p := ⟨w3.heap.size, 1, none⟩) (v := .int .i64 (0)) (by simp) hb
      have c_Y2_4 := cell_b (p := ⟨w3.heap.size, 2, none⟩) (v := .slice aY0 (0) cY0) (by simp) hb
      have r_X0_4 := Lib.hid (rdb_b (rdb_b (r_X0_3.out) (below_alloc _ _)) hb)
      have r_Y0_4 := Lib.hid (rdb_b (rdb_b (r_Y0_3.out) (below_alloc _ _)) hb)
      have T_4 := Lib.hid (below_trans (below_trans (T_3.out) (below_alloc _ _)) hb)
      have z_4 : w3.heap.size + 1 ≤ w4.heap.size := (by have := hb.size; (try simp at this); omega)
      have ac_X0_4 := fun o => cell_b (c_X0_4) (below_alloc _ o)
      have bc_X0_4 := fun o o1 => cell_b (ac_X0_4 o) (below_alloc _ o1)
      have ac_X1_4 := fun o => cell_b (c_X1_4) (below_alloc _ o)
      have bc_X1_4 := fun o o1 => cell_b (ac_X1_4 o) (below_alloc _ o1)
      have ac_X2_4 := fun o => cell_b (c_X2_4) (below_alloc _ o)
      have bc_X2_4 := fun o o1 => cell_b (ac_X2_4 o) (below_alloc _ o1)
      have ac_Y0_4 := fun o => cell_b (c_Y0_4) (below_alloc _ o)
      have bc_Y0_4 := fun o o1 => cell_b (ac_Y0_4 o) (below_alloc _ o1)
      have ac_Y1_4 := fun o => cell_b (c_Y1_4) (below_alloc _ o)
      have bc_Y1_4 := fun o o1 => cell_b (ac_Y1_4 o) (below_alloc _ o1)
      have ac_Y2_4 := fun o => cell_b (c_Y2_4) (below_alloc _ o)
      have bc_Y2_4 := fun o o1 => cell_b (ac_Y2_4 o) (below_alloc _ o1)
      have af_X0_4 := fun o => frz_b (cell_lt (c_X0_4)) (f_X0_4) (below_alloc _ o)
      have bf_X0_4 := fun o o1 => frz_b (cell_lt (ac_X0_4 o)) (af_X0_4 o) (below_alloc _ o1)
      have af_X1_4 := fun o => frz_b (cell_lt (c_X1_4)) (f_X1_4) (below_alloc _ o)
      have bf_X1_4 := fun o o1 => frz_b (cell_lt (ac_X1_4 o)) (af_X1_4 o) (below_alloc _ o1)
      have af_X2_4 := fun o => frz_b (cell_lt (c_X2_4)) (f_X2_4) (below_alloc _ o)
      have bf_X2_4 := fun o o1 => frz_b (cell_lt (ac_X2_4 o)) (af_X2_4 o) (below_alloc _ o1)
      clear hb c_X0_3 c_X1_3 c_X2_3 f_X0_3 f_X1_3 f_X2_3 r_X0_3 r_Y0_3 T_3 ac_X0_3 bc_X0_3 ac_X1_3 bc_X1_3 ac_X2_3 bc_X2_3 af_X0_3 bf_X0_3 af_X1_3 bf_X1_3 af_X2_3 bf_X2_3
      go_wp2_with fail
      (with_reducible refine (L_wkBarrier _ 0 0 _ _ (([] : List Int)) (rdb_rd (r_X0_4.out)) (rdb_rd (r_Y0_4.out)) (by first | omega | (simp; done) | (simp; omega))).mono ?_)
      rintro e w5 ⟨rfl, hb⟩
      have c_X0_5 := cell_b (c_X0_4) hb
      have c_X1_5 := cell_b (c_X1_4) hb
      have c_X2_5 := cell_b (c_X2_4) hb
      have c_Y0_5 := cell_b (c_Y0_4) hb
      have c_Y1_5 := cell_b (c_Y1_4) hb
      have c_Y2_5 := cell_b (c_Y2_4) hb
      have f_X0_5 := frz_b (cell_lt (c_X0_4)) (f_X0_4) hb
      have f_X1_5 := frz_b (cell_lt (c_X1_4)) (f_X1_4) hb
      have f_X2_5 := frz_b (cell_lt (c_X2_4)) (f_X2_4) hb
      have r_X0_5 := Lib.hid (rdb_b (r_X0_4.out) hb)
      have r_Y0_5 := Lib.hid (rdb_b (r_Y0_4.out) hb)
      have T_5 := Lib.hid (below_trans (T_4.out) hb)
      have z_5 : w4.heap.size ≤ w5.heap.size := (by have := hb.size; (try simp at this); omega)
      have ac_X0_5 := fun o => cell_b (c_X0_5) (below_alloc _ o)
      have bc_X0_5 := fun o o1 => cell_b (ac_X0_5 o) (below_alloc _ o1)
      have ac_X1_5 := fun o => cell_b (c_X1_5) (below_alloc _ o)
      have bc_X1_5 := fun o o1 => cell_b (ac_X1_5 o) (below_alloc _ o1)
      have ac_X2_5 := fun o => cell_b (c_X2_5) (below_alloc _ o)
      have bc_X2_5 := fun o o1 => cell_b (ac_X2_5 o) (below_alloc _ o1)
      have ac_Y0_5 := fun o => cell_b (c_Y0_5) (below_alloc _ o)
      have bc_Y0_5 := fun o o1 => cell_b (ac_Y0_5 o) (below_alloc _ o1)
      have ac_Y1_5 := fun o => cell_b (c_Y1_5) (below_alloc _ o)
      have bc_Y1_5 := fun o o1 => cell_b (ac_Y1_5 o) (below_alloc _ o1)
      have ac_Y2_5 := fun o => cell_b (c_Y2_5) (below_alloc _ o)
      have bc_Y2_5 := fun o o1 => cell_b (ac_Y2_5 o) (below_alloc _ o1)
      have af_X0_5 := fun o => frz_b (cell_lt (c_X0_5)) (f_X0_5) (below_alloc _ o)
      have bf_X0_5 := fun o o1 => frz_b (cell_lt (ac_X0_5 o)) (af_X0_5 o) (below_alloc _ o1)
      have af_X1_5 := fun o => frz_b (cell_lt (c_X1_5)) (f_X1_5) (below_alloc _ o)
      have bf_X1_5 := fun o o1 => frz_b (cell_lt (ac_X1_5 o)) (af_X1_5 o) (below_alloc _ o1)
      have af_X2_5 := fun o => frz_b (cell_lt (c_X2_5)) (f_X2_5) (below_alloc _ o)
      have bf_X2_5 := fun o o1 => frz_b (cell_lt (ac_X2_5 o)) (af_X2_5 o) (below_alloc _ o1)
      clear hb c_X0_4 c_X1_4 c_X2_4 c_Y0_4 c_Y1_4 c_Y2_4 f_X0_4 f_X1_4 f_X2_4 r_X0_4 r_Y0_4 T_4 ac_X0_4 bc_X0_4 ac_X1_4 bc_X1_4 ac_X2_4 bc_X2_4 ac_Y0_4 bc_Y0_4 ac_Y1_4 bc_Y1_4 ac_Y2_4 bc_Y2_4 af_X0_4 bf_X0_4 af_X1_4 bf_X1_4 af_X2_4 bf_X2_4
      go_wp2_with fail
      go_ret
      exact ⟨rfl, (T_5.out)⟩
end Go.Proofs.Ytkglngcopflgeaa
