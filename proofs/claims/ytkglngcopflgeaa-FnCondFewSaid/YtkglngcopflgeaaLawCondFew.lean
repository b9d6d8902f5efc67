/- The law FnCondFew: the walk. -/
import Derived.Test.YtkglngcopflgeaaDrawCond
import Derived.Test.YtkglngcopflgeaaQuickCond
import Derived.Test.YtkglngcopflgeaaPlainCond
import Derived.Test.YtkglngcopflgeaaGuard
import Derived.Deep.RegionHeld3
import Derived.Deep.DrawnRows
namespace Go.Proofs.Ytkglngcopflgeaa
open Go.RowKit
attribute [local go_sem ↓] Go.wp_at_zero Go.wp_at_succ
/-- At the head of FnCondFew's loop: the threads below k wait, m were let in. -/
def CFHead (w : World) (BC : Nat) (vm vi : Value) (wr : World) : Prop :=
  ∃ (k m : Nat) (Z : List Int) (ad : Option Addr) (cd : Nat), k ≤ 6 ∧ m ≤ k ∧ vi = .int .i64 (k : Int) ∧ vm = .int .i64 (m : Int) ∧ vt Z = true ∧ (∀ s : Nat, s < k → (s : Int) ∈ Z) ∧
    wr.cell? ⟨BC, 0, none⟩ = some (.slice ad Z.length cd) ∧ wr.frozen? ⟨BC, 0, none⟩ = false ∧ RdB wr w.heap.size (.slice ad Z.length cd) Z ∧ Below w.heap.size w wr ∧ BC < wr.heap.size
set_option maxHeartbeats 4000000 in
set_option maxRecDepth 100000 in
theorem W_FnCondFew (w : World) (v : Value) (n : Nat) (hv : RdY w v n) (hm : n ≤ 9223372036854775807) :
    Calls Try.prog 4 #[v] w fun e w' => e = .returned (.bool true) ∧ Below w.heap.size w w' := by
  have HV := Lib.hid hv
  obtain ⟨a, cap, rfl, hcap, hnc, hr⟩ := hv
  clear hr hnc
  by_cases hbig : 1048576 < n
  · go_enter Try.func4, Try.ntmps4
    go_wp2
    go_ret
    exact ⟨rfl, Below.refl _ _⟩
  · go_enter Try.func4, Try.ntmps4
    have T_0 : Hid (Below w.heap.size w w) := Lib.hid (Below.refl _ _)
    skip
    go_wp2_with fail
    (with_reducible refine (S_DrawCondValid _ _ n HV.out (by omega)).mono ?_)
    rintro e w1 ⟨xs, a1, c1, rfl, hx, hd, hb⟩
    have T_1 := Lib.hid (below_trans (T_0.out) hb)
    have z_1 : w.heap.size ≤ w1.heap.size := (by have := hb.size; (try simp at this); omega)
    have r_c_1 := Lib.hid (rdb_mono hd (show w.heap.size ≤ _ by first | omega | (simp; done) | (simp; omega)))
    have lr_c := Lib.hid (rdb_lo r_c_1.out)
    have hr_c := Lib.hid (rdb_hi r_c_1.out)
    clear hb T_0 hd
    by_cases hv1 : vt xs = true
    · have HV1 : Hid (vt xs = true) := Lib.hid (by simpa using hv1)
      clear hv1
      go_wp2_with fail
      (with_reducible refine (I_CondValid_q _  _ (xs)  (true) (rdb_rd (rdb_b (r_c_1.out) (below_alloc _ _))) (by first | omega | (simp; done) | (simp; omega)) HV1.out).mono ?_)
      rintro e w2 ⟨rfl, hb⟩
      have c_C0_2 := cell_b (p := ⟨w1.heap.size, 0, none⟩) (v := .slice a1 xs.length c1) (by simp) hb
      have f_C0_2 := frz_b (p := ⟨w1.heap.size, 0, none⟩) (by first | omega | (simp; done) | (simp; omega)) (show _ = false by simp) hb
      have r_c_2 := Lib.hid (rdb_b (rdb_b (r_c_1.out) (below_alloc _ _)) hb)
      have T_2 := Lib.hid (below_trans (below_trans (T_1.out) (below_alloc _ _)) hb)
      have z_2 : w1.heap.size + 1 ≤ w2.heap.size := (by have := hb.size; (try simp at this); omega)
      have ac_C0_2 := fun o => cell_b (c_C0_2) (below_alloc _ o)
      have bc_C0_2 := fun o o1 => cell_b (ac_C0_2 o) (below_alloc _ o1)
      have af_C0_2 := fun o => frz_b (cell_lt (c_C0_2)) (f_C0_2) (below_alloc _ o)
      have bf_C0_2 := fun o o1 => frz_b (cell_lt (ac_C0_2 o)) (af_C0_2 o) (below_alloc _ o1)
      clear hb r_c_1 T_1
      go_wp2_with fail
      (with_reducible refine (S_CondValid_q _  _ (xs)  (true) (rdb_rd (r_c_2.out)) (by first | omega | (simp; done) | (simp; omega)) HV1.out).mono ?_)
      rintro e w3 ⟨rfl, hb⟩
      have c_C0_3 := cell_b (c_C0_2) hb
      have f_C0_3 := frz_b (cell_lt (c_C0_2)) (f_C0_2) hb
      have r_c_3 := Lib.hid (rdb_b (r_c_2.out) hb)
      have T_3 := Lib.hid (below_trans (T_2.out) hb)
      have z_3 : w2.heap.size ≤ w3.heap.size := (by have := hb.size; (try simp at this); omega)
      have ac_C0_3 := fun o => cell_b (c_C0_3) (below_alloc _ o)
      have bc_C0_3 := fun o o1 => cell_b (ac_C0_3 o) (below_alloc _ o1)
      have af_C0_3 := fun o => frz_b (cell_lt (c_C0_3)) (f_C0_3) (below_alloc _ o)
      have bf_C0_3 := fun o o1 => frz_b (cell_lt (ac_C0_3 o)) (af_C0_3 o) (below_alloc _ o1)
      clear hb c_C0_2 f_C0_2 r_c_2 T_2 ac_C0_2 bc_C0_2 af_C0_2 bf_C0_2
      go_wp2_with fail
      go_loopw [5, 6, 7, 8] (fun vm vi _ _ wr => CFHead w (w1.heap.size) vm vi wr) (fun _ i _ _ _ => (6 - intOf i).toNat)
      case atStart => exact ⟨0, 0, xs, a1, c1, by omega, by omega, rfl, rfl, HV1.out, fun s hs => absurd hs (by omega), c_C0_3, f_C0_3, r_c_3.out, T_3.out, by omega⟩
      case round =>
        obtain ⟨k, m, Z, ad, cd, hk7, hmk, rfl, rfl, hvz, hall, hcC, hfC, hrd, hbl, hBC⟩ := hrel
        obtain ⟨w30, rfl⟩ : ∃ w30 : World, w30 = wr := ⟨_, rfl⟩
        have r_d_30 := Lib.hid hrd
        have lr_d := Lib.hid (rdb_lo hrd)
        have hr_d := Lib.hid (rdb_hi hrd)
        have c_C0_30 := hcC
        have f_C0_30 := hfC
        have T_30 := Lib.hid hbl
        have hz30 := hbl.size
        have hZl : Z.length ≤ 6 := (vt_iff.1 hvz).1
        have HVZ := Lib.hid hvz
        have HALL := Lib.hid hall
        clear hcC hfC hrd hbl hvz hall r_c_3 T_3 c_C0_3 f_C0_3 ac_C0_3 bc_C0_3 af_C0_3 bf_C0_3
        by_cases hlt : k < 6
        · have ht6 : thr (k : Int) = true := thr_iff.2 (by omega)
          by_cases hw : waitOk Z k = true
          · have HVN := Lib.hid (vt_snoc hw)
            have E0 : Hid (waitL Z k = Z ++ [(k : Int)]) := Lib.hid (by simp [waitL, hw])
            have E1 := Lib.hid hw
            have EN : Hid ((Z ++ [(k : Int)]).length = Z.length + 1) := Lib.hid (by simp)
            clear hw ht6
            go_wp2_with fail
            (with_reducible refine (I_WaitCond_q _  _ (Z) (k) (Z ++ [(k : Int)]) (true) (Z.length + 1) (rdb_rd (r_d_30.out)) (by first | omega | (simp; done) | (simp; omega)) E0.out E1.out EN.out).mono ?_)
            rintro e w31 ⟨aN0, cN0, rfl, hN0, hb⟩
            have c_C0_31 := cell_b (c_C0_30) hb
            have f_C0_31 := frz_b (cell_lt (c_C0_30)) (f_C0_30) hb
            have r_d_31 := Lib.hid (rdb_b (r_d_30.out) hb)
            have T_31 := Lib.hid (below_trans (T_30.out) hb)
            have z_31 : w30.heap.size ≤ w31.heap.size := (by have := hb.size; (try simp at this); omega)
            have r_N0_31 := Lib.hid (rdb_mono hN0 (show w30.heap.size ≤ _ by first | omega | (simp; done) | (simp; omega)))
            have lr_N0 := Lib.hid (rdb_lo r_N0_31.out)
            have hr_N0 := Lib.hid (rdb_hi r_N0_31.out)
            have ac_C0_31 := fun o => cell_b (c_C0_31) (below_alloc _ o)
            have bc_C0_31 := fun o o1 => cell_b (ac_C0_31 o) (below_alloc _ o1)
            have af_C0_31 := fun o => frz_b (cell_lt (c_C0_31)) (f_C0_31) (below_alloc _ o)
            have bf_C0_31 := fun o o1 => frz_b (cell_lt (ac_C0_31 o)) (af_C0_31 o) (below_alloc _ o1)
            clear hb c_C0_30 f_C0_30 r_d_30 T_30 hN0
            clear r_d_31 lr_d hr_d
            go_wp2_with fail
            go_roundw
            case rel => exact ⟨k + 1, m + 1, Z ++ [(k : Int)], aN0, cN0, by omega, by omega, by go_num, by go_num, HVN.out, fun s hs => (Nat.lt_or_ge s k).elim (fun h9 => List.mem_append_left _ (HALL.out s h9)) (fun h9 => by rw [show s = k by omega]; simp), (by rw [EN.out]; exact World.cell?_setCell_same _ _ _ (cell_b (c_C0_31) (below_alloc _ _))), (World.frozen?_setCell _ _ _ _).trans (frz_b (cell_lt (c_C0_31)) (f_C0_31) (below_alloc _ _)), (by rw [EN.out]; exact rdb_mono (rdb_set (p := ⟨w1.heap.size, 0, none⟩) (rdb_b (r_N0_31.out) (below_alloc _ _)) (fun g h => by have h1 := lr_N0.out g h; have h2 := hr_N0.out g h; show g ≠ w1.heap.size; omega) _) hz30), ((below_trans (T_31.out) (below_alloc _ _)).setCell (p := ⟨w1.heap.size, 0, none⟩) (by show w.heap.size ≤ w1.heap.size; omega) _), Nat.lt_of_lt_of_le (Nat.lt_of_lt_of_le (show w1.heap.size < w31.heap.size by omega) (below_alloc w31 _).size) (gr_set _ ⟨w1.heap.size, 0, none⟩ _).size⟩
            case measure => simp [intOf]; omega
          · have hw2 : waitOk Z k = false := by simpa using hw
            have HM := Lib.hid (not_waitOk HVZ.out ht6 hw2)
            have E0 : Hid (waitL Z k = []) := Lib.hid (by simp [waitL, hw2])
            have E1 := Lib.hid hw2
            clear hw hw2 ht6
            go_wp2_with fail
            (with_reducible refine (I_WaitCond_q _  _ (Z) (k) (([] : List Int)) (false) (0) (rdb_rd (r_d_30.out)) (by first | omega | (simp; done) | (simp; omega)) E0.out E1.out rfl).mono ?_)
            rintro e w31 ⟨aN0, cN0, rfl, hN0, hb⟩
            have c_C0_31 := cell_b (c_C0_30) hb
            have f_C0_31 := frz_b (cell_lt (c_C0_30)) (f_C0_30) hb
            have r_d_31 := Lib.hid (rdb_b (r_d_30.out) hb)
            have T_31 := Lib.hid (below_trans (T_30.out) hb)
            have z_31 : w30.heap.size ≤ w31.heap.size := (by have := hb.size; (try simp at this); omega)
            have r_N0_31 := Lib.hid (rdb_mono hN0 (show w30.heap.size ≤ _ by first | omega | (simp; done) | (simp; omega)))
            have lr_N0 := Lib.hid (rdb_lo r_N0_31.out)
            have hr_N0 := Lib.hid (rdb_hi r_N0_31.out)
            have ac_C0_31 := fun o => cell_b (c_C0_31) (below_alloc _ o)
            have bc_C0_31 := fun o o1 => cell_b (ac_C0_31 o) (below_alloc _ o1)
            have af_C0_31 := fun o => frz_b (cell_lt (c_C0_31)) (f_C0_31) (below_alloc _ o)
            have bf_C0_31 := fun o o1 => frz_b (cell_lt (ac_C0_31 o)) (af_C0_31 o) (below_alloc _ o1)
            clear hb c_C0_30 f_C0_30 r_d_30 T_30 hN0
            clear r_N0_31 lr_N0 hr_N0
            go_wp2_with fail
            go_roundw
            case rel => exact ⟨k + 1, m, Z, ad, cd, by omega, by omega, by go_num, rfl, HVZ.out, fun s hs => (Nat.lt_or_ge s k).elim (fun h9 => HALL.out s h9) (fun h9 => by rw [show s = k by omega]; exact HM.out), cell_b (c_C0_31) (below_alloc _ _), frz_b (cell_lt (c_C0_31)) (f_C0_31) (below_alloc _ _), (rdb_b (r_d_31.out) (below_alloc _ _)), (below_trans (T_31.out) (below_alloc _ _)), Nat.lt_of_lt_of_le (show w1.heap.size < w31.heap.size by omega) (below_alloc w31 _).size⟩
            case measure => simp [intOf]; omega
        · obtain rfl : k = 6 := by omega
          have hz6 : ((Z.length : Int) == 6) = true := by have := all_six HVZ.out HALL.out; simp; omega
          have hd1 : decide ((m : Int) ≤ 6) = true := by simp; omega
          go_wp2_with fail
          go_ret
          exact ⟨rfl, (T_30.out)⟩
    · have HV1 : Hid (vt xs = false) := Lib.hid (by simpa using hv1)
      clear hv1
      go_wp2_with fail
      (with_reducible refine (I_CondValid_q _  _ (xs)  (false) (rdb_rd (rdb_b (r_c_1.out) (below_alloc _ _))) (by first | omega | (simp; done) | (simp; omega)) HV1.out).mono ?_)
      rintro e w2 ⟨rfl, hb⟩
      have c_C0_2 := cell_b (p := ⟨w1.heap.size, 0, none⟩) (v := .slice a1 xs.length c1) (by simp) hb
      have f_C0_2 := frz_b (p := ⟨w1.heap.size, 0, none⟩) (by first | omega | (simp; done) | (simp; omega)) (show _ = false by simp) hb
      have r_c_2 := Lib.hid (rdb_b (rdb_b (r_c_1.out) (below_alloc _ _)) hb)
      have T_2 := Lib.hid (below_trans (below_trans (T_1.out) (below_alloc _ _)) hb)
      have z_2 : w1.heap.size + 1 ≤ w2.heap.size := (by have := hb.size; (try simp at this); omega)
      have ac_C0_2 := fun o => cell_b (c_C0_2) (below_alloc _ o)
      have bc_C0_2 := fun o o1 => cell_b (ac_C0_2 o) (below_alloc _ o1)
      have af_C0_2 := fun o => frz_b (cell_lt (c_C0_2)) (f_C0_2) (below_alloc _ o)
      have bf_C0_2 := fun o o1 => frz_b (cell_lt (ac_C0_2 o)) (af_C0_2 o) (below_alloc _ o1)
      clear hb r_c_1 T_1
      go_wp2_with fail
      (with_reducible refine (S_CondValid_q _  _ (xs)  (false) (rdb_rd (r_c_2.out)) (by first | omega | (simp; done) | (simp; omega)) HV1.out).mono ?_)
      rintro e w3 ⟨rfl, hb⟩
      have c_C0_3 := cell_b (c_C0_2) hb
      have f_C0_3 := frz_b (cell_lt (c_C0_2)) (f_C0_2) hb
      have r_c_3 := Lib.hid (rdb_b (r_c_2.out) hb)
      have T_3 := Lib.hid (below_trans (T_2.out) hb)
      have z_3 : w2.heap.size ≤ w3.heap.size := (by have := hb.size; (try simp at this); omega)
      have ac_C0_3 := fun o => cell_b (c_C0_3) (below_alloc _ o)
      have bc_C0_3 := fun o o1 => cell_b (ac_C0_3 o) (below_alloc _ o1)
      have af_C0_3 := fun o => frz_b (cell_lt (c_C0_3)) (f_C0_3) (below_alloc _ o)
      have bf_C0_3 := fun o o1 => frz_b (cell_lt (ac_C0_3 o)) (af_C0_3 o) (below_alloc _ o1)
      clear hb c_C0_2 f_C0_2 r_c_2 T_2 ac_C0_2 bc_C0_2 af_C0_2 bf_C0_2
      go_wp2_with fail
      (with_reducible refine (S_CondValid_q _  _ (xs)  (false) (rdb_rd (r_c_3.out)) (by first | omega | (simp; done) | (simp; omega)) HV1.out).mono ?_)
      rintro e w4 ⟨rfl, hb⟩
      have c_C0_4 := cell_b (c_C0_3) hb
      have f_C0_4 := frz_b (cell_lt (c_C0_3)) (f_C0_3) hb
      have r_c_4 := Lib.hid (rdb_b (r_c_3.out) hb)
      have T_4 := Lib.hid (below_trans (T_3.out) hb)
      have z_4 : w3.heap.size ≤ w4.heap.size := (by have := hb.size; (try simp at this); omega)
      have ac_C0_4 := fun o => cell_b (c_C0_4) (below_alloc _ o)
      have bc_C0_4 := fun o o1 => cell_b (ac_C0_4 o) (below_alloc _ o1)
      have af_C0_4 := fun o => frz_b (cell_lt (c_C0_4)) (f_C0_4) (below_alloc _ o)
      have bf_C0_4 := fun o o1 => frz_b (cell_lt (ac_C0_4 o)) (af_C0_4 o) (below_alloc _ o1)
      clear hb c_C0_3 f_C0_3 r_c_3 T_3 ac_C0_3 bc_C0_3 af_C0_3 bf_C0_3
      go_wp2_with fail
      go_ret
      exact ⟨rfl, (T_4.out)⟩
end Go.Proofs.Ytkglngcopflgeaa
