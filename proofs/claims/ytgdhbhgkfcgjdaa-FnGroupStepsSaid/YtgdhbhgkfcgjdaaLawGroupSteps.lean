/- The law FnGroupSteps: the walk. -/
import Derived.Test.YtgdhbhgkfcgjdaaCodeGroup
import Derived.Test.YtgdhbhgkfcgjdaaPlainGroup
import Derived.Test.YtgdhbhgkfcgjdaaPlainSteps
import Derived.Deep.RegionHeld3
import Derived.Deep.DrawnRows
import Derived.Deep.RegionLaw
namespace Go.Proofs.Ytgdhbhgkfcgjdaa
open Go.RowKit
attribute [local go_sem ↓] Go.wp_at_zero Go.wp_at_succ
/-- At the head of FnGroupSteps' loop. -/
def GSHead (w : World) (xs XS W0 : List Int) (c t : Int) (BC BX BA : Nat) (vx vw va vi : Value) (wr : World) : Prop :=
  ∃ (k : Nat) (Y Z : List Int) (aA : Option Addr) (cA : Nat) (ad : Option Addr) (cd : Nat), (k : Int) ≤ -t ∧ vi = .int .i64 (k : Int) ∧ va = .slice aA Y.length cA ∧ Ow wr BA (.slice aA Y.length cA) Y ∧
    wr.cell? ⟨BC, 0, none⟩ = some (.int .i64 (c - k)) ∧ wr.cell? ⟨BC, 1, none⟩ = some (.slice ad Z.length cd) ∧ wr.frozen? ⟨BC, 0, none⟩ = false ∧ wr.frozen? ⟨BC, 1, none⟩ = false ∧
    wr.cell? ⟨BX, 0, none⟩ = some (.int .i64 (c + t)) ∧ wr.cell? ⟨BX, 1, none⟩ = some vx ∧
    RdB wr w.heap.size (.slice ad Z.length cd) Z ∧ RdB wr w.heap.size vx XS ∧ RdB wr w.heap.size vw W0 ∧ Z = gz (c - k) xs ∧ Y = ga (c - k) xs ∧ Below w.heap.size w wr ∧ BA < wr.heap.size
set_option maxHeartbeats 4000000 in
set_option maxRecDepth 100000 in
theorem W_FnGroupSteps (w : World) (v : Value) (n : Nat) (hv : RdY w v n) (hm : n ≤ 9223372036854775807) :
    Calls Try.prog 7 #[v] w fun e w' => e = .returned (.bool true) ∧ Below w.heap.size w w' := by
  have HV := Lib.hid hv
  obtain ⟨a, cap, rfl, hcap, hnc, hr⟩ := hv
  clear hr hnc
  by_cases hbig : 1048576 < n
  · go_enter Try.func7, Try.ntmps7
    go_wp2
    go_ret
    exact ⟨rfl, Below.refl _ _⟩
  · obtain ⟨i0, hi, hz0, hz1, hz2⟩ := info_parts info3
    go_enter Try.func7, Try.ntmps7
    have T_0 : Hid (Below w.heap.size w w) := Lib.hid (Below.refl _ _)
    go_wp2_with fail
    (with_reducible refine (S_DrawAddGroup _ _ n HV.out (by omega)).mono ?_)
    rintro e w1 ⟨c, xs, t, a1, c1, rfl, hx, hd, hb⟩
    have T_1 := Lib.hid (below_trans (T_0.out) hb)
    have z_1 : w.heap.size ≤ w1.heap.size := (by have := hb.size; (try simp at this); omega)
    have r_c_1 := Lib.hid (rdb_mono hd (show w.heap.size ≤ _ by first | omega | (simp; done) | (simp; omega)))
    have lr_c := Lib.hid (rdb_lo r_c_1.out)
    have hr_c := Lib.hid (rdb_hi r_c_1.out)
    clear hb T_0 hd
    by_cases hok : addOk c xs t = true
    · by_cases hneg : 0 ≤ t
      · have HV1 := Lib.hid hok
        obtain ⟨hc0, hc1, ht0, ht1, hs0, hs1, hxl⟩ := addOk_in hok
        obtain ⟨XS, W0, hA, hXS, hW0, hXl, hWl⟩ := addG_gz hok
        have HA := Lib.hid hA
        have HXS := Lib.hid hXS
        have HW0 := Lib.hid hW0
        clear hA hXS hW0 hok
        have HT1 : Hid (addG (c) xs (t) = (c + t, XS, W0, true)) := Lib.hid (by exact HA.out)
        have HQ2 : Hid ((addG (c) xs (t)).1 = c + t) := Lib.hid (by rw [HT1.out])
        have HQ3 : Hid ((addG (c) xs (t)).2.1 = XS) := Lib.hid (by rw [HT1.out])
        have HQ4 : Hid ((addG (c) xs (t)).2.2.1 = W0) := Lib.hid (by rw [HT1.out])
        have HQ5 : Hid ((addG (c) xs (t)).2.2.2 = true) := Lib.hid (by rw [HT1.out])
        go_wp2_with fail
        (with_reducible refine (I_AddGroup_q _ (c) _ (xs) (t) (c + t) (XS) (W0) (true) ((XS).length) ((W0).length) (rdb_rd (rdb_b (r_c_1.out) (below_alloc _ _))) (by first | omega | (simp; done) | (simp; omega)) HQ2.out HQ3.out HQ4.out HQ5.out rfl rfl).mono ?_)
        rintro e w2 ⟨aX0, cX0, aX1, cX1, rfl, hX0, hX1, hb⟩
        have c_C0_2 := cell_b (p := ⟨w1.heap.size, 0, none⟩) (v := .int .i64 c) (by simp) hb
        have f_C0_2 := frz_b (p := ⟨w1.heap.size, 0, none⟩) (by first | omega | (simp; done) | (simp; omega)) (show _ = false by simp) hb
        have c_C1_2 := cell_b (p := ⟨w1.heap.size, 1, none⟩) (v := .slice a1 xs.length c1) (by simp) hb
        have f_C1_2 := frz_b (p := ⟨w1.heap.size, 1, none⟩) (by first | omega | (simp; done) | (simp; omega)) (show _ = false by simp) hb
        have r_c_2 := Lib.hid (rdb_b (rdb_b (r_c_1.out) (below_alloc _ _)) hb)
        have T_2 := Lib.hid (below_trans (below_trans (T_1.out) (below_alloc _ _)) hb)
        have z_2 : w1.heap.size + 1 ≤ w2.heap.size := (by have := hb.size; (try simp at this); omega)
        have r_X0_2 := Lib.hid (rdb_mono hX0 (show w1.heap.size + 1 ≤ _ by first | omega | (simp; done) | (simp; omega)))
        have lr_X0 := Lib.hid (rdb_lo r_X0_2.out)
        have hr_X0 := Lib.hid (rdb_hi r_X0_2.out)
        have r_X1_2 := Lib.hid (rdb_mono hX1 (show w1.heap.size + 1 ≤ _ by first | omega | (simp; done) | (simp; omega)))
        have lr_X1 := Lib.hid (rdb_lo r_X1_2.out)
        have hr_X1 := Lib.hid (rdb_hi r_X1_2.out)
        have ac_C0_2 := fun o => cell_b (c_C0_2) (below_alloc _ o)
        have bc_C0_2 := fun o o1 => cell_b (ac_C0_2 o) (below_alloc _ o1)
        have ac_C1_2 := fun o => cell_b (c_C1_2) (below_alloc _ o)
        have bc_C1_2 := fun o o1 => cell_b (ac_C1_2 o) (below_alloc _ o1)
        have af_C0_2 := fun o => frz_b (cell_lt (c_C0_2)) (f_C0_2) (below_alloc _ o)
        have bf_C0_2 := fun o o1 => frz_b (cell_lt (ac_C0_2 o)) (af_C0_2 o) (below_alloc _ o1)
        have af_C1_2 := fun o => frz_b (cell_lt (c_C1_2)) (f_C1_2) (below_alloc _ o)
        have bf_C1_2 := fun o o1 => frz_b (cell_lt (ac_C1_2 o)) (af_C1_2 o) (below_alloc _ o1)
        clear hb r_c_1 T_1 hX0 hX1
        go_wp2_with fail
        (with_reducible refine (S_AddGroup_q _ (c) _ (xs) (t) (c + t) (XS) (W0) (true) ((XS).length) ((W0).length) (rdb_rd (rdb_b (r_c_2.out) (below_alloc _ _))) (by first | omega | (simp; done) | (simp; omega)) HQ2.out HQ3.out HQ4.out HQ5.out rfl rfl).mono ?_)
        rintro e w3 ⟨aY0, cY0, aY1, cY1, rfl, hY0, hY1, hb⟩
        have c_C0_3 := cell_b (cell_b (c_C0_2) (below_alloc _ _)) hb
        have c_C1_3 := cell_b (cell_b (c_C1_2) (below_alloc _ _)) hb
        have f_C0_3 := frz_b (cell_lt (cell_b (c_C0_2) (below_alloc _ _))) (frz_b (cell_lt (c_C0_2)) (f_C0_2) (below_alloc _ _)) hb
        have f_C1_3 := frz_b (cell_lt (cell_b (c_C1_2) (below_alloc _ _))) (frz_b (cell_lt (c_C1_2)) (f_C1_2) (below_alloc _ _)) hb
        have c_X0_3 := cell_b (p := ⟨w2.heap.size, 0, none⟩) (v := .int .i64 (c + t)) (by simp) hb
        have c_X1_3 := cell_b (p := ⟨w2.heap.size, 1, none⟩) (v := .slice aX0 ((XS).length) cX0) (by simp) hb
        have r_c_3 := Lib.hid (rdb_b (rdb_b (r_c_2.out) (below_alloc _ _)) hb)
        have r_X0_3 := Lib.hid (rdb_b (rdb_b (r_X0_2.out) (below_alloc _ _)) hb)
        have r_X1_3 := Lib.hid (rdb_b (rdb_b (r_X1_2.out) (below_alloc _ _)) hb)
        have T_3 := Lib.hid (below_trans (below_trans (T_2.out) (below_alloc _ _)) hb)
        have z_3 : w2.heap.size + 1 ≤ w3.heap.size := (by have := hb.size; (try simp at this); omega)
        have r_Y0_3 := Lib.hid (rdb_mono hY0 (show w2.heap.size + 1 ≤ _ by first | omega | (simp; done) | (simp; omega)))
        have lr_Y0 := Lib.hid (rdb_lo r_Y0_3.out)
        have hr_Y0 := Lib.hid (rdb_hi r_Y0_3.out)
        have r_Y1_3 := Lib.hid (rdb_mono hY1 (show w2.heap.size + 1 ≤ _ by first | omega | (simp; done) | (simp; omega)))
        have lr_Y1 := Lib.hid (rdb_lo r_Y1_3.out)
        have hr_Y1 := Lib.hid (rdb_hi r_Y1_3.out)
        have ac_C0_3 := fun o => cell_b (c_C0_3) (below_alloc _ o)
        have bc_C0_3 := fun o o1 => cell_b (ac_C0_3 o) (below_alloc _ o1)
        have ac_C1_3 := fun o => cell_b (c_C1_3) (below_alloc _ o)
        have bc_C1_3 := fun o o1 => cell_b (ac_C1_3 o) (below_alloc _ o1)
        have ac_X0_3 := fun o => cell_b (c_X0_3) (below_alloc _ o)
        have bc_X0_3 := fun o o1 => cell_b (ac_X0_3 o) (below_alloc _ o1)
        have ac_X1_3 := fun o => cell_b (c_X1_3) (below_alloc _ o)
        have bc_X1_3 := fun o o1 => cell_b (ac_X1_3 o) (below_alloc _ o1)
        have af_C0_3 := fun o => frz_b (cell_lt (c_C0_3)) (f_C0_3) (below_alloc _ o)
        have bf_C0_3 := fun o o1 => frz_b (cell_lt (ac_C0_3 o)) (af_C0_3 o) (below_alloc _ o1)
        have af_C1_3 := fun o => frz_b (cell_lt (c_C1_3)) (f_C1_3) (below_alloc _ o)
        have bf_C1_3 := fun o o1 => frz_b (cell_lt (ac_C1_3 o)) (af_C1_3 o) (below_alloc _ o1)
        clear hb c_C0_2 c_C1_2 f_C0_2 f_C1_2 r_c_2 r_X0_2 r_X1_2 T_2 ac_C0_2 bc_C0_2 ac_C1_2 bc_C1_2 af_C0_2 bf_C0_2 af_C1_2 bf_C1_2 hY0 hY1
        go_wp2_with fail
        (with_reducible refine (I_GroupSame_q _ (c + t) (c + t) _ (XS) _ (XS) true (rdb_rd (rdb_b (r_X0_3.out) (below_alloc _ _))) (rdb_rd (rdb_b (r_Y0_3.out) (below_alloc _ _))) (by first | omega | (simp; done) | (simp; omega)) (by first | omega | (simp; done) | (simp; omega)) (by simp [eqB_self])).mono ?_)
        rintro e w4 ⟨rfl, hb⟩
        have c_C0_4 := cell_b (cell_b (c_C0_3) (below_alloc _ _)) hb
        have c_C1_4 := cell_b (cell_b (c_C1_3) (below_alloc _ _)) hb
        have c_X0_4 := cell_b (cell_b (c_X0_3) (below_alloc _ _)) hb
        have c_X1_4 := cell_b (cell_b (c_X1_3) (below_alloc _ _)) hb
        have f_C0_4 := frz_b (cell_lt (cell_b (c_C0_3) (below_alloc _ _))) (frz_b (cell_lt (c_C0_3)) (f_C0_3) (below_alloc _ _)) hb
        have f_C1_4 := frz_b (cell_lt (cell_b (c_C1_3) (below_alloc _ _))) (frz_b (cell_lt (c_C1_3)) (f_C1_3) (below_alloc _ _)) hb
        have c_Y0_4 := cell_b (p := ⟨w3.heap.size, 0, none⟩) (v := .int .i64 (c + t)) (by simp) hb
        have c_Y1_4 := cell_b (p := ⟨w3.heap.size, 1, none⟩) (v := .slice aY0 ((XS).length) cY0) (by simp) hb
        have r_c_4 := Lib.hid (rdb_b (rdb_b (r_c_3.out) (below_alloc _ _)) hb)
        have r_X0_4 := Lib.hid (rdb_b (rdb_b (r_X0_3.out) (below_alloc _ _)) hb)
        have r_X1_4 := Lib.hid (rdb_b (rdb_b (r_X1_3.out) (below_alloc _ _)) hb)
        have r_Y0_4 := Lib.hid (rdb_b (rdb_b (r_Y0_3.out) (below_alloc _ _)) hb)
        have r_Y1_4 := Lib.hid (rdb_b (rdb_b (r_Y1_3.out) (below_alloc _ _)) hb)
        have T_4 := Lib.hid (below_trans (below_trans (T_3.out) (below_alloc _ _)) hb)
        have z_4 : w3.heap.size + 1 ≤ w4.heap.size := (by have := hb.size; (try simp at this); omega)
        have ac_C0_4 := fun o => cell_b (c_C0_4) (below_alloc _ o)
        have bc_C0_4 := fun o o1 => cell_b (ac_C0_4 o) (below_alloc _ o1)
        have ac_C1_4 := fun o => cell_b (c_C1_4) (below_alloc _ o)
        have bc_C1_4 := fun o o1 => cell_b (ac_C1_4 o) (below_alloc _ o1)
        have ac_X0_4 := fun o => cell_b (c_X0_4) (below_alloc _ o)
        have bc_X0_4 := fun o o1 => cell_b (ac_X0_4 o) (below_alloc _ o1)
        have ac_X1_4 := fun o => cell_b (c_X1_4) (below_alloc _ o)
        have bc_X1_4 := fun o o1 => cell_b (ac_X1_4 o) (below_alloc _ o1)
        have ac_Y0_4 := fun o => cell_b (c_Y0_4) (below_alloc _ o)
        have bc_Y0_4 := fun o o1 => cell_b (ac_Y0_4 o) (below_alloc _ o1)
        have ac_Y1_4 := fun o => cell_b (c_Y1_4) (below_alloc _ o)
        have bc_Y1_4 := fun o o1 => cell_b (ac_Y1_4 o) (below_alloc _ o1)
        have af_C0_4 := fun o => frz_b (cell_lt (c_C0_4)) (f_C0_4) (below_alloc _ o)
        have bf_C0_4 := fun o o1 => frz_b (cell_lt (ac_C0_4 o)) (af_C0_4 o) (below_alloc _ o1)
        have af_C1_4 := fun o => frz_b (cell_lt (c_C1_4)) (f_C1_4) (below_alloc _ o)
        have bf_C1_4 := fun o o1 => frz_b (cell_lt (ac_C1_4 o)) (af_C1_4 o) (below_alloc _ o1)
        clear hb c_C0_3 c_C1_3 c_X0_3 c_X1_3 f_C0_3 f_C1_3 r_c_3 r_X0_3 r_X1_3 r_Y0_3 r_Y1_3 T_3 ac_C0_3 bc_C0_3 ac_C1_3 bc_C1_3 ac_X0_3 bc_X0_3 ac_X1_3 bc_X1_3 af_C0_3 bf_C0_3 af_C1_3 bf_C1_3
        go_wp2_with fail
        (with_reducible refine (eqB_true (drew_b (L_wkInts _ _ _ (W0) (W0) (rdb_rd (r_X1_4.out)) (rdb_rd (r_Y1_4.out)) (by first | omega | (simp; done) | (simp; omega)) (by first | omega | (simp; done) | (simp; omega))))).mono ?_)
        rintro e w5 ⟨rfl, hb⟩
        have c_C0_5 := cell_b (c_C0_4) hb
        have c_C1_5 := cell_b (c_C1_4) hb
        have c_X0_5 := cell_b (c_X0_4) hb
        have c_X1_5 := cell_b (c_X1_4) hb
        have c_Y0_5 := cell_b (c_Y0_4) hb
        have c_Y1_5 := cell_b (c_Y1_4) hb
        have f_C0_5 := frz_b (cell_lt (c_C0_4)) (f_C0_4) hb
        have f_C1_5 := frz_b (cell_lt (c_C1_4)) (f_C1_4) hb
        have r_c_5 := Lib.hid (rdb_b (r_c_4.out) hb)
        have r_X0_5 := Lib.hid (rdb_b (r_X0_4.out) hb)
        have r_X1_5 := Lib.hid (rdb_b (r_X1_4.out) hb)
        have r_Y0_5 := Lib.hid (rdb_b (r_Y0_4.out) hb)
        have r_Y1_5 := Lib.hid (rdb_b (r_Y1_4.out) hb)
        have T_5 := Lib.hid (below_trans (T_4.out) hb)
        have z_5 : w4.heap.size ≤ w5.heap.size := (by have := hb.size; (try simp at this); omega)
        have ac_C0_5 := fun o => cell_b (c_C0_5) (below_alloc _ o)
        have bc_C0_5 := fun o o1 => cell_b (ac_C0_5 o) (below_alloc _ o1)
        have ac_C1_5 := fun o => cell_b (c_C1_5) (below_alloc _ o)
        have bc_C1_5 := fun o o1 => cell_b (ac_C1_5 o) (below_alloc _ o1)
        have ac_X0_5 := fun o => cell_b (c_X0_5) (below_alloc _ o)
        have bc_X0_5 := fun o o1 => cell_b (ac_X0_5 o) (below_alloc _ o1)
        have ac_X1_5 := fun o => cell_b (c_X1_5) (below_alloc _ o)
        have bc_X1_5 := fun o o1 => cell_b (ac_X1_5 o) (below_alloc _ o1)
        have ac_Y0_5 := fun o => cell_b (c_Y0_5) (below_alloc _ o)
        have bc_Y0_5 := fun o o1 => cell_b (ac_Y0_5 o) (below_alloc _ o1)
        have ac_Y1_5 := fun o => cell_b (c_Y1_5) (below_alloc _ o)
        have bc_Y1_5 := fun o o1 => cell_b (ac_Y1_5 o) (below_alloc _ o1)
        have af_C0_5 := fun o => frz_b (cell_lt (c_C0_5)) (f_C0_5) (below_alloc _ o)
        have bf_C0_5 := fun o o1 => frz_b (cell_lt (ac_C0_5 o)) (af_C0_5 o) (below_alloc _ o1)
        have af_C1_5 := fun o => frz_b (cell_lt (c_C1_5)) (f_C1_5) (below_alloc _ o)
        have bf_C1_5 := fun o o1 => frz_b (cell_lt (ac_C1_5 o)) (af_C1_5 o) (below_alloc _ o1)
        clear hb c_C0_4 c_C1_4 c_X0_4 c_X1_4 c_Y0_4 c_Y1_4 f_C0_4 f_C1_4 r_c_4 r_X0_4 r_X1_4 r_Y0_4 r_Y1_4 T_4 ac_C0_4 bc_C0_4 ac_C1_4 bc_C1_4 ac_X0_4 bc_X0_4 ac_X1_4 bc_X1_4 ac_Y0_4 bc_Y0_4 ac_Y1_4 bc_Y1_4 af_C0_4 bf_C0_4 af_C1_4 bf_C1_4
        go_wp2_with fail
        (with_reducible refine (I_GroupSame_q _ (c + t) (c + t) _ (XS) _ (XS) true (rdb_rd (r_X0_5.out)) (rdb_rd (r_Y0_5.out)) (by first | omega | (simp; done) | (simp; omega)) (by first | omega | (simp; done) | (simp; omega)) (by simp [eqB_self])).mono ?_)
        rintro e w6 ⟨rfl, hb⟩
        have c_C0_6 := cell_b (c_C0_5) hb
        have c_C1_6 := cell_b (c_C1_5) hb
        have c_X0_6 := cell_b (c_X0_5) hb
        have c_X1_6 := cell_b (c_X1_5) hb
        have c_Y0_6 := cell_b (c_Y0_5) hb
        have c_Y1_6 := cell_b (c_Y1_5) hb
        have f_C0_6 := frz_b (cell_lt (c_C0_5)) (f_C0_5) hb
        have f_C1_6 := frz_b (cell_lt (c_C1_5)) (f_C1_5) hb
        have r_c_6 := Lib.hid (rdb_b (r_c_5.out) hb)
        have r_X0_6 := Lib.hid (rdb_b (r_X0_5.out) hb)
        have r_X1_6 := Lib.hid (rdb_b (r_X1_5.out) hb)
        have r_Y0_6 := Lib.hid (rdb_b (r_Y0_5.out) hb)
        have r_Y1_6 := Lib.hid (rdb_b (r_Y1_5.out) hb)
        have T_6 := Lib.hid (below_trans (T_5.out) hb)
        have z_6 : w5.heap.size ≤ w6.heap.size := (by have := hb.size; (try simp at this); omega)
        have ac_C0_6 := fun o => cell_b (c_C0_6) (below_alloc _ o)
        have bc_C0_6 := fun o o1 => cell_b (ac_C0_6 o) (below_alloc _ o1)
        have ac_C1_6 := fun o => cell_b (c_C1_6) (below_alloc _ o)
        have bc_C1_6 := fun o o1 => cell_b (ac_C1_6 o) (below_alloc _ o1)
        have ac_X0_6 := fun o => cell_b (c_X0_6) (below_alloc _ o)
        have bc_X0_6 := fun o o1 => cell_b (ac_X0_6 o) (below_alloc _ o1)
        have ac_X1_6 := fun o => cell_b (c_X1_6) (below_alloc _ o)
        have bc_X1_6 := fun o o1 => cell_b (ac_X1_6 o) (below_alloc _ o1)
        have ac_Y0_6 := fun o => cell_b (c_Y0_6) (below_alloc _ o)
        have bc_Y0_6 := fun o o1 => cell_b (ac_Y0_6 o) (below_alloc _ o1)
        have ac_Y1_6 := fun o => cell_b (c_Y1_6) (below_alloc _ o)
        have bc_Y1_6 := fun o o1 => cell_b (ac_Y1_6 o) (below_alloc _ o1)
        have af_C0_6 := fun o => frz_b (cell_lt (c_C0_6)) (f_C0_6) (below_alloc _ o)
        have bf_C0_6 := fun o o1 => frz_b (cell_lt (ac_C0_6 o)) (af_C0_6 o) (below_alloc _ o1)
        have af_C1_6 := fun o => frz_b (cell_lt (c_C1_6)) (f_C1_6) (below_alloc _ o)
        have bf_C1_6 := fun o o1 => frz_b (cell_lt (ac_C1_6 o)) (af_C1_6 o) (below_alloc _ o1)
        clear hb c_C0_5 c_C1_5 c_X0_5 c_X1_5 c_Y0_5 c_Y1_5 f_C0_5 f_C1_5 r_c_5 r_X0_5 r_X1_5 r_Y0_5 r_Y1_5 T_5 ac_C0_5 bc_C0_5 ac_C1_5 bc_C1_5 ac_X0_5 bc_X0_5 ac_X1_5 bc_X1_5 ac_Y0_5 bc_Y0_5 ac_Y1_5 bc_Y1_5 af_C0_5 bf_C0_5 af_C1_5 bf_C1_5
        go_wp2_with fail
        (with_reducible refine (eqB_true (drew_b (L_wkInts _ _ _ (W0) (W0) (rdb_rd (r_X1_6.out)) (rdb_rd (r_Y1_6.out)) (by first | omega | (simp; done) | (simp; omega)) (by first | omega | (simp; done) | (simp; omega))))).mono ?_)
        rintro e w7 ⟨rfl, hb⟩
        have c_C0_7 := cell_b (c_C0_6) hb
        have c_C1_7 := cell_b (c_C1_6) hb
        have c_X0_7 := cell_b (c_X0_6) hb
        have c_X1_7 := cell_b (c_X1_6) hb
        have c_Y0_7 := cell_b (c_Y0_6) hb
        have c_Y1_7 := cell_b (c_Y1_6) hb
        have f_C0_7 := frz_b (cell_lt (c_C0_6)) (f_C0_6) hb
        have f_C1_7 := frz_b (cell_lt (c_C1_6)) (f_C1_6) hb
        have r_c_7 := Lib.hid (rdb_b (r_c_6.out) hb)
        have r_X0_7 := Lib.hid (rdb_b (r_X0_6.out) hb)
        have r_X1_7 := Lib.hid (rdb_b (r_X1_6.out) hb)
        have r_Y0_7 := Lib.hid (rdb_b (r_Y0_6.out) hb)
        have r_Y1_7 := Lib.hid (rdb_b (r_Y1_6.out) hb)
        have T_7 := Lib.hid (below_trans (T_6.out) hb)
        have z_7 : w6.heap.size ≤ w7.heap.size := (by have := hb.size; (try simp at this); omega)
        have ac_C0_7 := fun o => cell_b (c_C0_7) (below_alloc _ o)
        have bc_C0_7 := fun o o1 => cell_b (ac_C0_7 o) (below_alloc _ o1)
        have ac_C1_7 := fun o => cell_b (c_C1_7) (below_alloc _ o)
        have bc_C1_7 := fun o o1 => cell_b (ac_C1_7 o) (below_alloc _ o1)
        have ac_X0_7 := fun o => cell_b (c_X0_7) (below_alloc _ o)
        have bc_X0_7 := fun o o1 => cell_b (ac_X0_7 o) (below_alloc _ o1)
        have ac_X1_7 := fun o => cell_b (c_X1_7) (below_alloc _ o)
        have bc_X1_7 := fun o o1 => cell_b (ac_X1_7 o) (below_alloc _ o1)
        have ac_Y0_7 := fun o => cell_b (c_Y0_7) (below_alloc _ o)
        have bc_Y0_7 := fun o o1 => cell_b (ac_Y0_7 o) (below_alloc _ o1)
        have ac_Y1_7 := fun o => cell_b (c_Y1_7) (below_alloc _ o)
        have bc_Y1_7 := fun o o1 => cell_b (ac_Y1_7 o) (below_alloc _ o1)
        have af_C0_7 := fun o => frz_b (cell_lt (c_C0_7)) (f_C0_7) (below_alloc _ o)
        have bf_C0_7 := fun o o1 => frz_b (cell_lt (ac_C0_7 o)) (af_C0_7 o) (below_alloc _ o1)
        have af_C1_7 := fun o => frz_b (cell_lt (c_C1_7)) (f_C1_7) (below_alloc _ o)
        have bf_C1_7 := fun o o1 => frz_b (cell_lt (ac_C1_7 o)) (af_C1_7 o) (below_alloc _ o1)
        clear hb c_C0_6 c_C1_6 c_X0_6 c_X1_6 c_Y0_6 c_Y1_6 f_C0_6 f_C1_6 r_c_6 r_X0_6 r_X1_6 r_Y0_6 r_Y1_6 T_6 ac_C0_6 bc_C0_6 ac_C1_6 bc_C1_6 ac_X0_6 bc_X0_6 ac_X1_6 bc_X1_6 ac_Y0_6 bc_Y0_6 ac_Y1_6 bc_Y1_6 af_C0_6 bf_C0_6 af_C1_6 bf_C1_6
        go_wp2_with fail
        go_ret
        exact ⟨rfl, (T_7.out)⟩
      · have HV1 := Lib.hid hok
        obtain ⟨hc0, hc1, ht0, ht1, hs0, hs1, hxl⟩ := addOk_in hok
        obtain ⟨XS, W0, hA, hXS, hW0, hXl, hWl⟩ := addG_gz hok
        have HA := Lib.hid hA
        have HXS := Lib.hid hXS
        have HW0 := Lib.hid hW0
        clear hA hXS hW0 hok
        have HT1 : Hid (addG (c) xs (t) = (c + t, XS, W0, true)) := Lib.hid (by exact HA.out)
        have HQ2 : Hid ((addG (c) xs (t)).1 = c + t) := Lib.hid (by rw [HT1.out])
        have HQ3 : Hid ((addG (c) xs (t)).2.1 = XS) := Lib.hid (by rw [HT1.out])
        have HQ4 : Hid ((addG (c) xs (t)).2.2.1 = W0) := Lib.hid (by rw [HT1.out])
        have HQ5 : Hid ((addG (c) xs (t)).2.2.2 = true) := Lib.hid (by rw [HT1.out])
        go_wp2_with fail
        (with_reducible refine (I_AddGroup_q _ (c) _ (xs) (t) (c + t) (XS) (W0) (true) ((XS).length) ((W0).length) (rdb_rd (rdb_b (r_c_1.out) (below_alloc _ _))) (by first | omega | (simp; done) | (simp; omega)) HQ2.out HQ3.out HQ4.out HQ5.out rfl rfl).mono ?_)
        rintro e w2 ⟨aX0, cX0, aX1, cX1, rfl, hX0, hX1, hb⟩
        have c_C0_2 := cell_b (p := ⟨w1.heap.size, 0, none⟩) (v := .int .i64 c) (by simp) hb
        have f_C0_2 := frz_b (p := ⟨w1.heap.size, 0, none⟩) (by first | omega | (simp; done) | (simp; omega)) (show _ = false by simp) hb
        have c_C1_2 := cell_b (p := ⟨w1.heap.size, 1, none⟩) (v := .slice a1 xs.length c1) (by simp) hb
        have f_C1_2 := frz_b (p := ⟨w1.heap.size, 1, none⟩) (by first | omega | (simp; done) | (simp; omega)) (show _ = false by simp) hb
        have r_c_2 := Lib.hid (rdb_b (rdb_b (r_c_1.out) (below_alloc _ _)) hb)
        have T_2 := Lib.hid (below_trans (below_trans (T_1.out) (below_alloc _ _)) hb)
        have z_2 : w1.heap.size + 1 ≤ w2.heap.size := (by have := hb.size; (try simp at this); omega)
        have r_X0_2 := Lib.hid (rdb_mono hX0 (show w1.heap.size + 1 ≤ _ by first | omega | (simp; done) | (simp; omega)))
        have lr_X0 := Lib.hid (rdb_lo r_X0_2.out)
        have hr_X0 := Lib.hid (rdb_hi r_X0_2.out)
        have r_X1_2 := Lib.hid (rdb_mono hX1 (show w1.heap.size + 1 ≤ _ by first | omega | (simp; done) | (simp; omega)))
        have lr_X1 := Lib.hid (rdb_lo r_X1_2.out)
        have hr_X1 := Lib.hid (rdb_hi r_X1_2.out)
        have ac_C0_2 := fun o => cell_b (c_C0_2) (below_alloc _ o)
        have bc_C0_2 := fun o o1 => cell_b (ac_C0_2 o) (below_alloc _ o1)
        have ac_C1_2 := fun o => cell_b (c_C1_2) (below_alloc _ o)
        have bc_C1_2 := fun o o1 => cell_b (ac_C1_2 o) (below_alloc _ o1)
        have af_C0_2 := fun o => frz_b (cell_lt (c_C0_2)) (f_C0_2) (below_alloc _ o)
        have bf_C0_2 := fun o o1 => frz_b (cell_lt (ac_C0_2 o)) (af_C0_2 o) (below_alloc _ o1)
        have af_C1_2 := fun o => frz_b (cell_lt (c_C1_2)) (f_C1_2) (below_alloc _ o)
        have bf_C1_2 := fun o o1 => frz_b (cell_lt (ac_C1_2 o)) (af_C1_2 o) (below_alloc _ o1)
        clear hb r_c_1 T_1 hX0 hX1
        go_wp2_with fail
        (with_reducible refine (S_AddGroup_q _ (c) _ (xs) (t) (c + t) (XS) (W0) (true) ((XS).length) ((W0).length) (rdb_rd (rdb_b (r_c_2.out) (below_alloc _ _))) (by first | omega | (simp; done) | (simp; omega)) HQ2.out HQ3.out HQ4.out HQ5.out rfl rfl).mono ?_)
        rintro e w3 ⟨aY0, cY0, aY1, cY1, rfl, hY0, hY1, hb⟩
        have c_C0_3 := cell_b (cell_b (c_C0_2) (below_alloc _ _)) hb
        have c_C1_3 := cell_b (cell_b (c_C1_2) (below_alloc _ _)) hb
        have f_C0_3 := frz_b (cell_lt (cell_b (c_C0_2) (below_alloc _ _))) (frz_b (cell_lt (c_C0_2)) (f_C0_2) (below_alloc _ _)) hb
        have f_C1_3 := frz_b (cell_lt (cell_b (c_C1_2) (below_alloc _ _))) (frz_b (cell_lt (c_C1_2)) (f_C1_2) (below_alloc _ _)) hb
        have c_X0_3 := cell_b (p := ⟨w2.heap.size, 0, none⟩) (v := .int .i64 (c + t)) (by simp) hb
        have c_X1_3 := cell_b (p := ⟨w2.heap.size, 1, none⟩) (v := .slice aX0 ((XS).length) cX0) (by simp) hb
        have r_c_3 := Lib.hid (rdb_b (rdb_b (r_c_2.out) (below_alloc _ _)) hb)
        have r_X0_3 := Lib.hid (rdb_b (rdb_b (r_X0_2.out) (below_alloc _ _)) hb)
        have r_X1_3 := Lib.hid (rdb_b (rdb_b (r_X1_2.out) (below_alloc _ _)) hb)
        have T_3 := Lib.hid (below_trans (below_trans (T_2.out) (below_alloc _ _)) hb)
        have z_3 : w2.heap.size + 1 ≤ w3.heap.size := (by have := hb.size; (try simp at this); omega)
        have r_Y0_3 := Lib.hid (rdb_mono hY0 (show w2.heap.size + 1 ≤ _ by first | omega | (simp; done) | (simp; omega)))
        have lr_Y0 := Lib.hid (rdb_lo r_Y0_3.out)
        have hr_Y0 := Lib.hid (rdb_hi r_Y0_3.out)
        have r_Y1_3 := Lib.hid (rdb_mono hY1 (show w2.heap.size + 1 ≤ _ by first | omega | (simp; done) | (simp; omega)))
        have lr_Y1 := Lib.hid (rdb_lo r_Y1_3.out)
        have hr_Y1 := Lib.hid (rdb_hi r_Y1_3.out)
        have ac_C0_3 := fun o => cell_b (c_C0_3) (below_alloc _ o)
        have bc_C0_3 := fun o o1 => cell_b (ac_C0_3 o) (below_alloc _ o1)
        have ac_C1_3 := fun o => cell_b (c_C1_3) (below_alloc _ o)
        have bc_C1_3 := fun o o1 => cell_b (ac_C1_3 o) (below_alloc _ o1)
        have ac_X0_3 := fun o => cell_b (c_X0_3) (below_alloc _ o)
        have bc_X0_3 := fun o o1 => cell_b (ac_X0_3 o) (below_alloc _ o1)
        have ac_X1_3 := fun o => cell_b (c_X1_3) (below_alloc _ o)
        have bc_X1_3 := fun o o1 => cell_b (ac_X1_3 o) (below_alloc _ o1)
        have af_C0_3 := fun o => frz_b (cell_lt (c_C0_3)) (f_C0_3) (below_alloc _ o)
        have bf_C0_3 := fun o o1 => frz_b (cell_lt (ac_C0_3 o)) (af_C0_3 o) (below_alloc _ o1)
        have af_C1_3 := fun o => frz_b (cell_lt (c_C1_3)) (f_C1_3) (below_alloc _ o)
        have bf_C1_3 := fun o o1 => frz_b (cell_lt (ac_C1_3 o)) (af_C1_3 o) (below_alloc _ o1)
        clear hb c_C0_2 c_C1_2 f_C0_2 f_C1_2 r_c_2 r_X0_2 r_X1_2 T_2 ac_C0_2 bc_C0_2 ac_C1_2 bc_C1_2 af_C0_2 bf_C0_2 af_C1_2 bf_C1_2 hY0 hY1
        go_wp2_with fail
        (with_reducible refine (I_GroupSame_q _ (c + t) (c + t) _ (XS) _ (XS) true (rdb_rd (rdb_b (r_X0_3.out) (below_alloc _ _))) (rdb_rd (rdb_b (r_Y0_3.out) (below_alloc _ _))) (by first | omega | (simp; done) | (simp; omega)) (by first | omega | (simp; done) | (simp; omega)) (by simp [eqB_self])).mono ?_)
        rintro e w4 ⟨rfl, hb⟩
        have c_C0_4 := cell_b (cell_b (c_C0_3) (below_alloc _ _)) hb
        have c_C1_4 := cell_b (cell_b (c_C1_3) (below_alloc _ _)) hb
        have c_X0_4 := cell_b (cell_b (c_X0_3) (below_alloc _ _)) hb
        have c_X1_4 := cell_b (cell_b (c_X1_3) (below_alloc _ _)) hb
        have f_C0_4 := frz_b (cell_lt (cell_b (c_C0_3) (below_alloc _ _))) (frz_b (cell_lt (c_C0_3)) (f_C0_3) (below_alloc _ _)) hb
        have f_C1_4 := frz_b (cell_lt (cell_b (c_C1_3) (below_alloc _ _))) (frz_b (cell_lt (c_C1_3)) (f_C1_3) (below_alloc _ _)) hb
        have c_Y0_4 := cell_b (p := ⟨w3.heap.size, 0, none⟩) (v := .int .i64 (c + t)) (by simp) hb
        have c_Y1_4 := cell_b (p := ⟨w3.heap.size, 1, none⟩) (v := .slice aY0 ((XS).length) cY0) (by simp) hb
        have r_c_4 := Lib.hid (rdb_b (rdb_b (r_c_3.out) (below_alloc _ _)) hb)
        have r_X0_4 := Lib.hid (rdb_b (rdb_b (r_X0_3.out) (below_alloc _ _)) hb)
        have r_X1_4 := Lib.hid (rdb_b (rdb_b (r_X1_3.out) (below_alloc _ _)) hb)
        have r_Y0_4 := Lib.hid (rdb_b (rdb_b (r_Y0_3.out) (below_alloc _ _)) hb)
        have r_Y1_4 := Lib.hid (rdb_b (rdb_b (r_Y1_3.out) (below_alloc _ _)) hb)
        have T_4 := Lib.hid (below_trans (below_trans (T_3.out) (below_alloc _ _)) hb)
        have z_4 : w3.heap.size + 1 ≤ w4.heap.size := (by have := hb.size; (try simp at this); omega)
        have ac_C0_4 := fun o => cell_b (c_C0_4) (below_alloc _ o)
        have bc_C0_4 := fun o o1 => cell_b (ac_C0_4 o) (below_alloc _ o1)
        have ac_C1_4 := fun o => cell_b (c_C1_4) (below_alloc _ o)
        have bc_C1_4 := fun o o1 => cell_b (ac_C1_4 o) (below_alloc _ o1)
        have ac_X0_4 := fun o => cell_b (c_X0_4) (below_alloc _ o)
        have bc_X0_4 := fun o o1 => cell_b (ac_X0_4 o) (below_alloc _ o1)
        have ac_X1_4 := fun o => cell_b (c_X1_4) (below_alloc _ o)
        have bc_X1_4 := fun o o1 => cell_b (ac_X1_4 o) (below_alloc _ o1)
        have ac_Y0_4 := fun o => cell_b (c_Y0_4) (below_alloc _ o)
        have bc_Y0_4 := fun o o1 => cell_b (ac_Y0_4 o) (below_alloc _ o1)
        have ac_Y1_4 := fun o => cell_b (c_Y1_4) (below_alloc _ o)
        have bc_Y1_4 := fun o o1 => cell_b (ac_Y1_4 o) (below_alloc _ o1)
        have af_C0_4 := fun o => frz_b (cell_lt (c_C0_4)) (f_C0_4) (below_alloc _ o)
        have bf_C0_4 := fun o o1 => frz_b (cell_lt (ac_C0_4 o)) (af_C0_4 o) (below_alloc _ o1)
        have af_C1_4 := fun o => frz_b (cell_lt (c_C1_4)) (f_C1_4) (below_alloc _ o)
        have bf_C1_4 := fun o o1 => frz_b (cell_lt (ac_C1_4 o)) (af_C1_4 o) (below_alloc _ o1)
        clear hb c_C0_3 c_C1_3 c_X0_3 c_X1_3 f_C0_3 f_C1_3 r_c_3 r_X0_3 r_X1_3 r_Y0_3 r_Y1_3 T_3 ac_C0_3 bc_C0_3 ac_C1_3 bc_C1_3 ac_X0_3 bc_X0_3 ac_X1_3 bc_X1_3 af_C0_3 bf_C0_3 af_C1_3 bf_C1_3
        go_wp2_with fail
        (with_reducible refine (eqB_true (drew_b (L_wkInts _ _ _ (W0) (W0) (rdb_rd (r_X1_4.out)) (rdb_rd (r_Y1_4.out)) (by first | omega | (simp; done) | (simp; omega)) (by first | omega | (simp; done) | (simp; omega))))).mono ?_)
        rintro e w5 ⟨rfl, hb⟩
        have c_C0_5 := cell_b (c_C0_4) hb
        have c_C1_5 := cell_b (c_C1_4) hb
        have c_X0_5 := cell_b (c_X0_4) hb
        have c_X1_5 := cell_b (c_X1_4) hb
        have c_Y0_5 := cell_b (c_Y0_4) hb
        have c_Y1_5 := cell_b (c_Y1_4) hb
        have f_C0_5 := frz_b (cell_lt (c_C0_4)) (f_C0_4) hb
        have f_C1_5 := frz_b (cell_lt (c_C1_4)) (f_C1_4) hb
        have r_c_5 := Lib.hid (rdb_b (r_c_4.out) hb)
        have r_X0_5 := Lib.hid (rdb_b (r_X0_4.out) hb)
        have r_X1_5 := Lib.hid (rdb_b (r_X1_4.out) hb)
        have r_Y0_5 := Lib.hid (rdb_b (r_Y0_4.out) hb)
        have r_Y1_5 := Lib.hid (rdb_b (r_Y1_4.out) hb)
        have T_5 := Lib.hid (below_trans (T_4.out) hb)
        have z_5 : w4.heap.size ≤ w5.heap.size := (by have := hb.size; (try simp at this); omega)
        have ac_C0_5 := fun o => cell_b (c_C0_5) (below_alloc _ o)
        have bc_C0_5 := fun o o1 => cell_b (ac_C0_5 o) (below_alloc _ o1)
        have ac_C1_5 := fun o => cell_b (c_C1_5) (below_alloc _ o)
        have bc_C1_5 := fun o o1 => cell_b (ac_C1_5 o) (below_alloc _ o1)
        have ac_X0_5 := fun o => cell_b (c_X0_5) (below_alloc _ o)
        have bc_X0_5 := fun o o1 => cell_b (ac_X0_5 o) (below_alloc _ o1)
        have ac_X1_5 := fun o => cell_b (c_X1_5) (below_alloc _ o)
        have bc_X1_5 := fun o o1 => cell_b (ac_X1_5 o) (below_alloc _ o1)
        have ac_Y0_5 := fun o => cell_b (c_Y0_5) (below_alloc _ o)
        have bc_Y0_5 := fun o o1 => cell_b (ac_Y0_5 o) (below_alloc _ o1)
        have ac_Y1_5 := fun o => cell_b (c_Y1_5) (below_alloc _ o)
        have bc_Y1_5 := fun o o1 => cell_b (ac_Y1_5 o) (below_alloc _ o1)
        have af_C0_5 := fun o => frz_b (cell_lt (c_C0_5)) (f_C0_5) (below_alloc _ o)
        have bf_C0_5 := fun o o1 => frz_b (cell_lt (ac_C0_5 o)) (af_C0_5 o) (below_alloc _ o1)
        have af_C1_5 := fun o => frz_b (cell_lt (c_C1_5)) (f_C1_5) (below_alloc _ o)
        have bf_C1_5 := fun o o1 => frz_b (cell_lt (ac_C1_5 o)) (af_C1_5 o) (below_alloc _ o1)
        clear hb c_C0_4 c_C1_4 c_X0_4 c_X1_4 c_Y0_4 c_Y1_4 f_C0_4 f_C1_4 r_c_4 r_X0_4 r_X1_4 r_Y0_4 r_Y1_4 T_4 ac_C0_4 bc_C0_4 ac_C1_4 bc_C1_4 ac_X0_4 bc_X0_4 ac_X1_4 bc_X1_4 ac_Y0_4 bc_Y0_4 ac_Y1_4 bc_Y1_4 af_C0_4 bf_C0_4 af_C1_4 bf_C1_4
        clear r_Y0_5 lr_Y0 hr_Y0 r_Y1_5 lr_Y1 hr_Y1 c_Y0_5 ac_Y0_5 bc_Y0_5 c_Y1_5 ac_Y1_5 bc_Y1_5
        go_wp2_with fail
        go_loopw [11, 12, 13, 14, 15] (fun va vi _ _ _ wr => GSHead w xs XS W0 c t (w1.heap.size) (w2.heap.size) (w5.heap.size) (.slice aX0 ((XS).length) cX0) (.slice aX1 ((W0).length) cX1) va vi wr) (fun _ i _ _ _ _ => (-t - intOf i).toNat)
        case atStart => exact ⟨0, [], xs, _, _, a1, c1, by omega, rfl, rfl, ow_made w5 _ (Nat.le_refl _), (by rw [show c - ((0 : Nat) : Int) = c by omega]; exact cell_b (c_C0_5) (below_alloc _ _)), cell_b (c_C1_5) (below_alloc _ _), frz_b (cell_lt (c_C0_5)) (f_C0_5) (below_alloc _ _), frz_b (cell_lt (c_C1_5)) (f_C1_5) (below_alloc _ _), cell_b (c_X0_5) (below_alloc _ _), cell_b (c_X1_5) (below_alloc _ _), (rdb_b (r_c_5.out) (below_alloc _ _)), rdb_mono (rdb_b (r_X0_5.out) (below_alloc _ _)) (by omega), rdb_mono (rdb_b (r_X1_5.out) (below_alloc _ _)) (by omega), by rw [show c - ((0 : Nat) : Int) = c by omega]; exact (gz_pos (by omega)).symm, by rw [show c - ((0 : Nat) : Int) = c by omega]; exact (ga_pos (by omega)).symm, (below_trans (T_5.out) (below_alloc _ _)), by first | omega | (simp; done) | (simp; omega)⟩
        case round =>
          obtain ⟨k, Y, Z, aA, cA, ad, cd, hkt, rfl, rfl, hoA, c_C0_30, c_C1_30, f_C0_30, f_C1_30, c_X0_30, c_X1_30, hrd, hrx, hrw, hZ, hY, hbl, hBA⟩ := hrel
          obtain ⟨w30, rfl⟩ : ∃ w30 : World, w30 = wr := ⟨_, rfl⟩
          have o_A_30 := Lib.hid hoA
          have lo_A := Lib.hid (own_lo hoA)
          have hi_A := Lib.hid (own_hi hoA)
          have r_d_30 := Lib.hid hrd
          have lr_d := Lib.hid (rdb_lo hrd)
          have hr_d := Lib.hid (rdb_hi hrd)
          have r_X0_30 := Lib.hid hrx
          have r_X1_30 := Lib.hid hrw
          have T_30 := Lib.hid hbl
          have hz30 := hbl.size
          have HZ := Lib.hid hZ
          have HY := Lib.hid hY
          have hYl : Y.length ≤ 6 := by rw [hY]; exact Nat.le_trans (ga_len _ _) hxl
          have hZl : Z.length ≤ 6 := by rw [hZ]; exact Nat.le_trans (gz_len _ _) hxl
          clear hoA hrd hrx hrw hZ hY hbl r_c_5 r_X0_5 r_X1_5 T_5 c_C0_5 c_C1_5 c_X0_5 c_X1_5 f_C0_5 f_C1_5 ac_C0_5 bc_C0_5 ac_C1_5 bc_C1_5 ac_X0_5 bc_X0_5 ac_X1_5 bc_X1_5 af_C0_5 bf_C0_5 af_C1_5 bf_C1_5
          by_cases hlt : (k : Int) < -t
          · obtain ⟨Z1, W1, e1, e2, e3, e4⟩ := gz_step (k := k) HV1.out hlt
            rw [← HZ.out] at e1
            rw [← HY.out] at e2
            have E1 := Lib.hid e1
            have E2 := Lib.hid e2
            have E3 := Lib.hid e3
            have hW1l : W1.length ≤ 6 := by rw [e4]; exact Nat.le_trans (ga_len _ _) hxl
            have hZ1l : Z1.length ≤ 6 := by rw [e3]; exact Nat.le_trans (gz_len _ _) hxl
            have E4 := Lib.hid e4
            clear e1 e2 e3 e4
            have HN : Hid (addG (c - (k : Int)) (Z) (-1) = (c - (k : Int) - 1, Z1, W1, true)) := Lib.hid (E1.out)
            have HQ51 : Hid ((addG (c - (k : Int)) (Z) (-1)).1 = c - (k : Int) - 1) := Lib.hid (by rw [HN.out])
            have HQ52 : Hid ((addG (c - (k : Int)) (Z) (-1)).2.1 = Z1) := Lib.hid (by rw [HN.out])
            have HQ53 : Hid ((addG (c - (k : Int)) (Z) (-1)).2.2.1 = W1) := Lib.hid (by rw [HN.out])
            have HQ54 : Hid ((addG (c - (k : Int)) (Z) (-1)).2.2.2 = true) := Lib.hid (by rw [HN.out])
            go_wp2_with fail
            (with_reducible refine (I_AddGroup_q _ (c - (k : Int)) _ (Z) (-1) (c - (k : Int) - 1) (Z1) (W1) (true) ((Z1).length) ((W1).length) (rdb_rd (r_d_30.out)) (by first | omega | (simp; done) | (simp; omega)) HQ51.out HQ52.out HQ53.out HQ54.out rfl rfl).mono ?_)
            rintro e w31 ⟨aN0, cN0, aN1, cN1, rfl, hN0, hN1, hb⟩
            have c_C0_31 := cell_b (c_C0_30) hb
            have c_C1_31 := cell_b (c_C1_30) hb
            have c_X0_31 := cell_b (c_X0_30) hb
            have c_X1_31 := cell_b (c_X1_30) hb
            have f_C0_31 := frz_b (cell_lt (c_C0_30)) (f_C0_30) hb
            have f_C1_31 := frz_b (cell_lt (c_C1_30)) (f_C1_30) hb
            have o_A_31 := Lib.hid (own_below (o_A_30.out) hb)
            have r_d_31 := Lib.hid (rdb_b (r_d_30.out) hb)
            have r_X0_31 := Lib.hid (rdb_b (r_X0_30.out) hb)
            have r_X1_31 := Lib.hid (rdb_b (r_X1_30.out) hb)
            have T_31 := Lib.hid (below_trans (T_30.out) hb)
            have z_31 : w30.heap.size ≤ w31.heap.size := (by have := hb.size; (try simp at this); omega)
            have r_N0_31 := Lib.hid (rdb_mono hN0 (show w30.heap.size ≤ _ by first | omega | (simp; done) | (simp; omega)))
            have lr_N0 := Lib.hid (rdb_lo r_N0_31.out)
            have hr_N0 := Lib.hid (rdb_hi r_N0_31.out)
            have r_N1_31 := Lib.hid (rdb_mono hN1 (show w30.heap.size ≤ _ by first | omega | (simp; done) | (simp; omega)))
            have lr_N1 := Lib.hid (rdb_lo r_N1_31.out)
            have hr_N1 := Lib.hid (rdb_hi r_N1_31.out)
            have ac_C0_31 := fun o => cell_b (c_C0_31) (below_alloc _ o)
            have bc_C0_31 := fun o o1 => cell_b (ac_C0_31 o) (below_alloc _ o1)
            have ac_C1_31 := fun o => cell_b (c_C1_31) (below_alloc _ o)
            have bc_C1_31 := fun o o1 => cell_b (ac_C1_31 o) (below_alloc _ o1)
            have ac_X0_31 := fun o => cell_b (c_X0_31) (below_alloc _ o)
            have bc_X0_31 := fun o o1 => cell_b (ac_X0_31 o) (below_alloc _ o1)
            have ac_X1_31 := fun o => cell_b (c_X1_31) (below_alloc _ o)
            have bc_X1_31 := fun o o1 => cell_b (ac_X1_31 o) (below_alloc _ o1)
            have af_C0_31 := fun o => frz_b (cell_lt (c_C0_31)) (f_C0_31) (below_alloc _ o)
            have bf_C0_31 := fun o o1 => frz_b (cell_lt (ac_C0_31 o)) (af_C0_31 o) (below_alloc _ o1)
            have af_C1_31 := fun o => frz_b (cell_lt (c_C1_31)) (f_C1_31) (below_alloc _ o)
            have bf_C1_31 := fun o o1 => frz_b (cell_lt (ac_C1_31 o)) (af_C1_31 o) (below_alloc _ o1)
            clear hb c_C0_30 c_C1_30 c_X0_30 c_X1_30 f_C0_30 f_C1_30 o_A_30 r_d_30 r_X0_30 r_X1_30 T_30 hN0 hN1
            clear r_d_31 lr_d hr_d
            have tok32 : True := trivial
            go_wp2_with (first | (at_builtin; have _t := tok32; refine wpList_append_rd_w (by rfl) _ _ 23 rfl ((w5.heap.size)) i0 Try.underlying23 hi hz0 hz1 hz2 (.slice aA Y.length cA) (Y.length) (Y) rfl (own_below (o_A_31.out) (below_alloc _ _)) _ _ _ (W1) rfl (rdb_rd (rdb_b (r_N1_31.out) (below_alloc _ _))) rfl (by unfold maxLen; omega) (by omega) (by first | omega | (simp; done) | (simp; omega)) ?_; intro v32 w32 hown hgr hloc; clear tok32; have ho : w32.ownsRow ((w5.heap.size)) 3 1 v32 (Y.length + (W1).length) (ints (Y ++ W1)) := (by exact hown); obtain ⟨aB, cB, hv⟩ := own_shape ho; subst hv; have iv_A2 : Hid (∀ g, (Value.slice aB (Y.length + (W1).length) cB).ownBlock = some g → (w5.heap.size ≤ g ∧ g < w30.heap.size) ∨ (w31.heap.size + 1 ≤ g ∧ g < w32.heap.size)) := Lib.hid (fun g h => by have h9 := hgr.size; have h7 := own_hi ho g h; rcases hloc with h8 | h8 <;> rw [h8] at h <;> first | (have h1 := lo_A.out g h; have h2 := hi_A.out g h; (try simp at h9); omega) | (injection h with h; (try simp at h9); (try simp at h); omega)); have c_C0_32 := cell_gr (cell_b (c_C0_31) (below_alloc _ _)) hgr (fun g h => by have h1 := lo_A.out g h; have h2 := hi_A.out g h; show w1.heap.size ≠ g; omega); have c_C1_32 := cell_gr (cell_b (c_C1_31) (below_alloc _ _)) hgr (fun g h => by have h1 := lo_A.out g h; have h2 := hi_A.out g h; show w1.heap.size ≠ g; omega); have c_X0_32 := cell_gr (cell_b (c_X0_31) (below_alloc _ _)) hgr (fun g h => by have h1 := lo_A.out g h; have h2 := hi_A.out g h; show w2.heap.size ≠ g; omega); have c_X1_32 := cell_gr (cell_b (c_X1_31) (below_alloc _ _)) hgr (fun g h => by have h1 := lo_A.out g h; have h2 := hi_A.out g h; show w2.heap.size ≠ g; omega); have f_C0_32 := (frz_gr (p := ⟨w1.heap.size, 0, none⟩) (cell_lt (cell_b (c_C0_31) (below_alloc _ _))) hgr (fun g h => by have h1 := lo_A.out g h; have h2 := hi_A.out g h; show w1.heap.size ≠ g; omega)).trans (frz_b (cell_lt (c_C0_31)) (f_C0_31) (below_alloc _ _)); have f_C1_32 := (frz_gr (p := ⟨w1.heap.size, 1, none⟩) (cell_lt (cell_b (c_C1_31) (below_alloc _ _))) hgr (fun g h => by have h1 := lo_A.out g h; have h2 := hi_A.out g h; show w1.heap.size ≠ g; omega)).trans (frz_b (cell_lt (c_C1_31)) (f_C1_31) (below_alloc _ _)); have c_N0_32 := cell_gr (p := ⟨w31.heap.size, 0, none⟩) (v := .int .i64 (c - (k : Int) - 1)) (by simp) hgr (fun g h => by have h1 := lo_A.out g h; have h2 := hi_A.out g h; show w31.heap.size ≠ g; omega); have c_N1_32 := cell_gr (p := ⟨w31.heap.size, 1, none⟩) (v := .slice aN0 ((Z1).length) cN0) (by simp) hgr (fun g h => by have h1 := lo_A.out g h; have h2 := hi_A.out g h; show w31.heap.size ≠ g; omega); have r_X0_32 := Lib.hid (rdb_gr (rdb_b (r_X0_31.out) (below_alloc _ _)) hgr (fun g g' h h' => by have h1 := lo_A.out g h; have h2 := hi_A.out g h; have h3 := lr_X0.out g' h'; have h4 := hr_X0.out g' h'; omega)); have r_X1_32 := Lib.hid (rdb_gr (rdb_b (r_X1_31.out) (below_alloc _ _)) hgr (fun g g' h h' => by have h1 := lo_A.out g h; have h2 := hi_A.out g h; have h3 := lr_X1.out g' h'; have h4 := hr_X1.out g' h'; omega)); have r_N0_32 := Lib.hid (rdb_gr (rdb_b (r_N0_31.out) (below_alloc _ _)) hgr (fun g g' h h' => by have h1 := lo_A.out g h; have h2 := hi_A.out g h; have h3 := lr_N0.out g' h'; have h4 := hr_N0.out g' h'; omega)); have r_N1_32 := Lib.hid (rdb_gr (rdb_b (r_N1_31.out) (below_alloc _ _)) hgr (fun g g' h h' => by have h1 := lo_A.out g h; have h2 := hi_A.out g h; have h3 := lr_N1.out g' h'; have h4 := hr_N1.out g' h'; omega)); have T_32 := Lib.hid (below_gr (below_trans (T_31.out) (below_alloc _ _)) (by first | omega | (simp; done) | (simp; omega)) hgr (fun g h => by have h1 := lo_A.out g h; have h2 := hi_A.out g h; omega)); have z_32 : w31.heap.size + 1 ≤ w32.heap.size := (by have := hgr.size; (try simp at this); omega); have o_A2_32 := Lib.hid ho; have lo_A2 := Lib.hid (own_lo o_A2_32.out); have hi_A2 := Lib.hid (own_hi o_A2_32.out); have ac_C0_32 := fun o => cell_b (c_C0_32) (below_alloc _ o); have bc_C0_32 := fun o o1 => cell_b (ac_C0_32 o) (below_alloc _ o1); have ac_C1_32 := fun o => cell_b (c_C1_32) (below_alloc _ o); have bc_C1_32 := fun o o1 => cell_b (ac_C1_32 o) (below_alloc _ o1); have ac_X0_32 := fun o => cell_b (c_X0_32) (below_alloc _ o); have bc_X0_32 := fun o o1 => cell_b (ac_X0_32 o) (below_alloc _ o1); have ac_X1_32 := fun o => cell_b (c_X1_32) (below_alloc _ o); have bc_X1_32 := fun o o1 => cell_b (ac_X1_32 o) (below_alloc _ o1); have ac_N0_32 := fun o => cell_b (c_N0_32) (below_alloc _ o); have bc_N0_32 := fun o o1 => cell_b (ac_N0_32 o) (below_alloc _ o1); have ac_N1_32 := fun o => cell_b (c_N1_32) (below_alloc _ o); have bc_N1_32 := fun o o1 => cell_b (ac_N1_32 o) (below_alloc _ o1); have af_C0_32 := fun o => frz_b (cell_lt (c_C0_32)) (f_C0_32) (below_alloc _ o); have bf_C0_32 := fun o o1 => frz_b (cell_lt (ac_C0_32 o)) (af_C0_32 o) (below_alloc _ o1); have af_C1_32 := fun o => frz_b (cell_lt (c_C1_32)) (f_C1_32) (below_alloc _ o); have bf_C1_32 := fun o o1 => frz_b (cell_lt (ac_C1_32 o)) (af_C1_32 o) (below_alloc _ o1); clear hgr c_C0_31 c_C1_31 c_X0_31 c_X1_31 f_C0_31 f_C1_31 r_X0_31 r_X1_31 r_N0_31 r_N1_31 T_31 ac_C0_31 bc_C0_31 ac_C1_31 bc_C1_31 ac_X0_31 bc_X0_31 ac_X1_31 bc_X1_31 af_C0_31 bf_C0_31 af_C1_31 bf_C1_31 hown ho hloc o_A_31 lo_A hi_A))
            have e9 : (Y ++ W1).length = Y.length + W1.length := by simp
            go_wp2_with fail
            go_roundw
            case rel => exact ⟨k + 1, Y ++ W1, Z1, aB, cB, aN0, cN0, by omega, by go_num, by simp, (by rw [e9]; exact ow_eq (own_set (p := ⟨w1.heap.size, 1, none⟩) (own_set (p := ⟨w1.heap.size, 0, none⟩) (o_A2_32.out) (fun g h => by have h1 := lo_A2.out g h; have h2 := hi_A2.out g h; have h5 := iv_A2.out g h; show g ≠ w1.heap.size; omega) _) (fun g h => by have h1 := lo_A2.out g h; have h2 := hi_A2.out g h; have h5 := iv_A2.out g h; show g ≠ w1.heap.size; omega) _) rfl e9.symm), (by rw [show c - ((k + 1 : Nat) : Int) = c - (k : Int) - 1 by omega]; exact cell_set (p := ⟨w1.heap.size, 1, none⟩) (World.cell?_setCell_same _ _ _ (c_C0_32)) (ne_off (by decide))), World.cell?_setCell_same _ _ _ (cell_set (p := ⟨w1.heap.size, 0, none⟩) (c_C1_32) (ne_off (by decide))), (World.frozen?_setCell _ _ _ _).trans ((World.frozen?_setCell _ _ _ _).trans (f_C0_32)), (World.frozen?_setCell _ _ _ _).trans ((World.frozen?_setCell _ _ _ _).trans (f_C1_32)), cell_set (p := ⟨w1.heap.size, 1, none⟩) (cell_set (p := ⟨w1.heap.size, 0, none⟩) (c_X0_32) (ne_blk (by omega))) (ne_blk (by omega)), cell_set (p := ⟨w1.heap.size, 1, none⟩) (cell_set (p := ⟨w1.heap.size, 0, none⟩) (c_X1_32) (ne_blk (by omega))) (ne_blk (by omega)), rdb_mono (rdb_set (p := ⟨w1.heap.size, 1, none⟩) (rdb_set (p := ⟨w1.heap.size, 0, none⟩) (r_N0_32.out) (fun g h => by have h1 := lr_N0.out g h; have h2 := hr_N0.out g h; show g ≠ w1.heap.size; omega) _) (fun g h => by have h1 := lr_N0.out g h; have h2 := hr_N0.out g h; show g ≠ w1.heap.size; omega) _) hz30, (rdb_set (p := ⟨w1.heap.size, 1, none⟩) (rdb_set (p := ⟨w1.heap.size, 0, none⟩) (r_X0_32.out) (fun g h => by have h1 := lr_X0.out g h; have h2 := hr_X0.out g h; show g ≠ w1.heap.size; omega) _) (fun g h => by have h1 := lr_X0.out g h; have h2 := hr_X0.out g h; show g ≠ w1.heap.size; omega) _), (rdb_set (p := ⟨w1.heap.size, 1, none⟩) (rdb_set (p := ⟨w1.heap.size, 0, none⟩) (r_X1_32.out) (fun g h => by have h1 := lr_X1.out g h; have h2 := hr_X1.out g h; show g ≠ w1.heap.size; omega) _) (fun g h => by have h1 := lr_X1.out g h; have h2 := hr_X1.out g h; show g ≠ w1.heap.size; omega) _), E3.out, (by rw [E2.out]; exact E4.out), (((T_32.out).setCell (p := ⟨w1.heap.size, 0, none⟩) (by show w.heap.size ≤ w1.heap.size; omega) _).setCell (p := ⟨w1.heap.size, 1, none⟩) (by show w.heap.size ≤ w1.heap.size; omega) _), Nat.lt_of_lt_of_le (show w5.heap.size < w32.heap.size by omega) (by simp)⟩
            case measure => simp [intOf]; omega
          · have hkk : c - (k : Int) = c + t := by omega
            have EY : Hid (Y = W0) := Lib.hid (by rw [HY.out, HW0.out, hkk])
            have EZ : Hid (Z = XS) := Lib.hid (by rw [HZ.out, HXS.out, hkk])
            have o_F_30 := Lib.hid (ow_eq o_A_30.out EY.out (by rw [EY.out]))
            have HK := Lib.hid hkk
            clear hkk
            have lo_F := lo_A
            have hi_F := hi_A
            have HQ51 : Hid ((decide (c - (k : Int) = c + t) && eqB Z XS) = true) := Lib.hid (by rw [HK.out, EZ.out]; simp [eqB_self])
            go_wp2_with fail
            (with_reducible refine (I_GroupSame_q _ (c - (k : Int)) (c + t) _ (Z) _ (XS) true (rdb_rd (r_d_30.out)) (rdb_rd (r_X0_30.out)) (by first | omega | (simp; done) | (simp; omega)) (by first | omega | (simp; done) | (simp; omega)) HQ51.out).mono ?_)
            rintro e w31 ⟨rfl, hb⟩
            have c_C0_31 := cell_b (c_C0_30) hb
            have c_C1_31 := cell_b (c_C1_30) hb
            have c_X0_31 := cell_b (c_X0_30) hb
            have c_X1_31 := cell_b (c_X1_30) hb
            have f_C0_31 := frz_b (cell_lt (c_C0_30)) (f_C0_30) hb
            have f_C1_31 := frz_b (cell_lt (c_C1_30)) (f_C1_30) hb
            have o_F_31 := Lib.hid (own_below (o_F_30.out) hb)
            have r_d_31 := Lib.hid (rdb_b (r_d_30.out) hb)
            have r_X0_31 := Lib.hid (rdb_b (r_X0_30.out) hb)
            have r_X1_31 := Lib.hid (rdb_b (r_X1_30.out) hb)
            have T_31 := Lib.hid (below_trans (T_30.out) hb)
            have z_31 : w30.heap.size ≤ w31.heap.size := (by have := hb.size; (try simp at this); omega)
            have ac_C0_31 := fun o => cell_b (c_C0_31) (below_alloc _ o)
            have bc_C0_31 := fun o o1 => cell_b (ac_C0_31 o) (below_alloc _ o1)
            have ac_C1_31 := fun o => cell_b (c_C1_31) (below_alloc _ o)
            have bc_C1_31 := fun o o1 => cell_b (ac_C1_31 o) (below_alloc _ o1)
            have ac_X0_31 := fun o => cell_b (c_X0_31) (below_alloc _ o)
            have bc_X0_31 := fun o o1 => cell_b (ac_X0_31 o) (below_alloc _ o1)
            have ac_X1_31 := fun o => cell_b (c_X1_31) (below_alloc _ o)
            have bc_X1_31 := fun o o1 => cell_b (ac_X1_31 o) (below_alloc _ o1)
            have af_C0_31 := fun o => frz_b (cell_lt (c_C0_31)) (f_C0_31) (below_alloc _ o)
            have bf_C0_31 := fun o o1 => frz_b (cell_lt (ac_C0_31 o)) (af_C0_31 o) (below_alloc _ o1)
            have af_C1_31 := fun o => frz_b (cell_lt (c_C1_31)) (f_C1_31) (below_alloc _ o)
            have bf_C1_31 := fun o o1 => frz_b (cell_lt (ac_C1_31 o)) (af_C1_31 o) (below_alloc _ o1)
            clear hb c_C0_30 c_C1_30 c_X0_30 c_X1_30 f_C0_30 f_C1_30 o_F_30 r_d_30 r_X0_30 r_X1_30 T_30
            go_wp2_with fail
            (with_reducible refine (eqB_true (drew_b (L_wkInts _ _ _ (W0) (W0) (own_rd (o_F_31.out)) (rdb_rd (r_X1_31.out)) (by first | omega | (simp; done) | (simp; omega)) (by first | omega | (simp; done) | (simp; omega))))).mono ?_)
            rintro e w32 ⟨rfl, hb⟩
            have c_C0_32 := cell_b (c_C0_31) hb
            have c_C1_32 := cell_b (c_C1_31) hb
            have c_X0_32 := cell_b (c_X0_31) hb
            have c_X1_32 := cell_b (c_X1_31) hb
            have f_C0_32 := frz_b (cell_lt (c_C0_31)) (f_C0_31) hb
            have f_C1_32 := frz_b (cell_lt (c_C1_31)) (f_C1_31) hb
            have o_F_32 := Lib.hid (own_below (o_F_31.out) hb)
            have r_d_32 := Lib.hid (rdb_b (r_d_31.out) hb)
            have r_X0_32 := Lib.hid (rdb_b (r_X0_31.out) hb)
            have r_X1_32 := Lib.hid (rdb_b (r_X1_31.out) hb)
            have T_32 := Lib.hid (below_trans (T_31.out) hb)
            have z_32 : w31.heap.size ≤ w32.heap.size := (by have := hb.size; (try simp at this); omega)
            have ac_C0_32 := fun o => cell_b (c_C0_32) (below_alloc _ o)
            have bc_C0_32 := fun o o1 => cell_b (ac_C0_32 o) (below_alloc _ o1)
            have ac_C1_32 := fun o => cell_b (c_C1_32) (below_alloc _ o)
            have bc_C1_32 := fun o o1 => cell_b (ac_C1_32 o) (below_alloc _ o1)
            have ac_X0_32 := fun o => cell_b (c_X0_32) (below_alloc _ o)
            have bc_X0_32 := fun o o1 => cell_b (ac_X0_32 o) (below_alloc _ o1)
            have ac_X1_32 := fun o => cell_b (c_X1_32) (below_alloc _ o)
            have bc_X1_32 := fun o o1 => cell_b (ac_X1_32 o) (below_alloc _ o1)
            have af_C0_32 := fun o => frz_b (cell_lt (c_C0_32)) (f_C0_32) (below_alloc _ o)
            have bf_C0_32 := fun o o1 => frz_b (cell_lt (ac_C0_32 o)) (af_C0_32 o) (below_alloc _ o1)
            have af_C1_32 := fun o => frz_b (cell_lt (c_C1_32)) (f_C1_32) (below_alloc _ o)
            have bf_C1_32 := fun o o1 => frz_b (cell_lt (ac_C1_32 o)) (af_C1_32 o) (below_alloc _ o1)
            clear hb c_C0_31 c_C1_31 c_X0_31 c_X1_31 f_C0_31 f_C1_31 o_F_31 r_d_31 r_X0_31 r_X1_31 T_31 ac_C0_31 bc_C0_31 ac_C1_31 bc_C1_31 ac_X0_31 bc_X0_31 ac_X1_31 bc_X1_31 af_C0_31 bf_C0_31 af_C1_31 bf_C1_31
            go_wp2_with fail
            go_ret
            exact ⟨rfl, (T_32.out)⟩
    · have HV1 : Hid (addOk c xs t = false) := Lib.hid (by simpa using hok)
      clear hok
      have HT1 : Hid (addG (c) xs (t) = (0, ([] : List Int), ([] : List Int), false)) := Lib.hid (by rw [addG_eq, if_neg (by rw [HV1.out]; simp)])
      have HQ2 : Hid ((addG (c) xs (t)).1 = 0) := Lib.hid (by rw [HT1.out])
      have HQ3 : Hid ((addG (c) xs (t)).2.1 = ([] : List Int)) := Lib.hid (by rw [HT1.out])
      have HQ4 : Hid ((addG (c) xs (t)).2.2.1 = ([] : List Int)) := Lib.hid (by rw [HT1.out])
      have HQ5 : Hid ((addG (c) xs (t)).2.2.2 = false) := Lib.hid (by rw [HT1.out])
      go_wp2_with fail
      (with_reducible refine (I_AddGroup_q _ (c) _ (xs) (t) (0) (([] : List Int)) (([] : List Int)) (false) (0) (0) (rdb_rd (rdb_b (r_c_1.out) (below_alloc _ _))) (by first | omega | (simp; done) | (simp; omega)) HQ2.out HQ3.out HQ4.out HQ5.out rfl rfl).mono ?_)
      rintro e w2 ⟨aX0, cX0, aX1, cX1, rfl, hX0, hX1, hb⟩
      have c_C0_2 := cell_b (p := ⟨w1.heap.size, 0, none⟩) (v := .int .i64 c) (by simp) hb
      have f_C0_2 := frz_b (p := ⟨w1.heap.size, 0, none⟩) (by first | omega | (simp; done) | (simp; omega)) (show _ = false by simp) hb
      have c_C1_2 := cell_b (p := ⟨w1.heap.size, 1, none⟩) (v := .slice a1 xs.length c1) (by simp) hb
      have f_C1_2 := frz_b (p := ⟨w1.heap.size, 1, none⟩) (by first | omega | (simp; done) | (simp; omega)) (show _ = false by simp) hb
      have r_c_2 := Lib.hid (rdb_b (rdb_b (r_c_1.out) (below_alloc _ _)) hb)
      have T_2 := Lib.hid (below_trans (below_trans (T_1.out) (below_alloc _ _)) hb)
      have z_2 : w1.heap.size + 1 ≤ w2.heap.size := (by have := hb.size; (try simp at this); omega)
      have r_X0_2 := Lib.hid (rdb_mono hX0 (show w1.heap.size + 1 ≤ _ by first | omega | (simp; done) | (simp; omega)))
      have lr_X0 := Lib.hid (rdb_lo r_X0_2.out)
      have hr_X0 := Lib.hid (rdb_hi r_X0_2.out)
      have r_X1_2 := Lib.hid (rdb_mono hX1 (show w1.heap.size + 1 ≤ _ by first | omega | (simp; done) | (simp; omega)))
      have lr_X1 := Lib.hid (rdb_lo r_X1_2.out)
      have hr_X1 := Lib.hid (rdb_hi r_X1_2.out)
      have ac_C0_2 := fun o => cell_b (c_C0_2) (below_alloc _ o)
      have bc_C0_2 := fun o o1 => cell_b (ac_C0_2 o) (below_alloc _ o1)
      have ac_C1_2 := fun o => cell_b (c_C1_2) (below_alloc _ o)
      have bc_C1_2 := fun o o1 => cell_b (ac_C1_2 o) (below_alloc _ o1)
      have af_C0_2 := fun o => frz_b (cell_lt (c_C0_2)) (f_C0_2) (below_alloc _ o)
      have bf_C0_2 := fun o o1 => frz_b (cell_lt (ac_C0_2 o)) (af_C0_2 o) (below_alloc _ o1)
      have af_C1_2 := fun o => frz_b (cell_lt (c_C1_2)) (f_C1_2) (below_alloc _ o)
      have bf_C1_2 := fun o o1 => frz_b (cell_lt (ac_C1_2 o)) (af_C1_2 o) (below_alloc _ o1)
      clear hb r_c_1 T_1 hX0 hX1
      go_wp2_with fail
      (with_reducible refine (S_AddGroup_q _ (c) _ (xs) (t) (0) (([] : List Int)) (([] : List Int)) (false) (0) (0) (rdb_rd (rdb_b (r_c_2.out) (below_alloc _ _))) (by first | omega | (simp; done) | (simp; omega)) HQ2.out HQ3.out HQ4.out HQ5.out rfl rfl).mono ?_)
      rintro e w3 ⟨aY0, cY0, aY1, cY1, rfl, hY0, hY1, hb⟩
      have c_C0_3 := cell_b (cell_b (c_C0_2) (below_alloc _ _)) hb
      have c_C1_3 := cell_b (cell_b (c_C1_2) (below_alloc _ _)) hb
      have f_C0_3 := frz_b (cell_lt (cell_b (c_C0_2) (below_alloc _ _))) (frz_b (cell_lt (c_C0_2)) (f_C0_2) (below_alloc _ _)) hb
      have f_C1_3 := frz_b (cell_lt (cell_b (c_C1_2) (below_alloc _ _))) (frz_b (cell_lt (c_C1_2)) (f_C1_2) (below_alloc _ _)) hb
      have c_X0_3 := cell_b (p := ⟨w2.heap.size, 0, none⟩) (v := .int .i64 (0)) (by simp) hb
      have c_X1_3 := cell_b (p := ⟨w2.heap.size, 1, none⟩) (v := .slice aX0 (0) cX0) (by simp) hb
      have r_c_3 := Lib.hid (rdb_b (rdb_b (r_c_2.out) (below_alloc _ _)) hb)
      have r_X0_3 := Lib.hid (rdb_b (rdb_b (r_X0_2.out) (below_alloc _ _)) hb)
      have r_X1_3 := Lib.hid (rdb_b (rdb_b (r_X1_2.out) (below_alloc _ _)) hb)
      have T_3 := Lib.hid (below_trans (below_trans (T_2.out) (below_alloc _ _)) hb)
      have z_3 : w2.heap.size + 1 ≤ w3.heap.size := (by have := hb.size; (try simp at this); omega)
      have r_Y0_3 := Lib.hid (rdb_mono hY0 (show w2.heap.size + 1 ≤ _ by first | omega | (simp; done) | (simp; omega)))
      have lr_Y0 := Lib.hid (rdb_lo r_Y0_3.out)
      have hr_Y0 := Lib.hid (rdb_hi r_Y0_3.out)
      have r_Y1_3 := Lib.hid (rdb_mono hY1 (show w2.heap.size + 1 ≤ _ by first | omega | (simp; done) | (simp; omega)))
      have lr_Y1 := Lib.hid (rdb_lo r_Y1_3.out)
      have hr_Y1 := Lib.hid (rdb_hi r_Y1_3.out)
      have ac_C0_3 := fun o => cell_b (c_C0_3) (below_alloc _ o)
      have bc_C0_3 := fun o o1 => cell_b (ac_C0_3 o) (below_alloc _ o1)
      have ac_C1_3 := fun o => cell_b (c_C1_3) (below_alloc _ o)
      have bc_C1_3 := fun o o1 => cell_b (ac_C1_3 o) (below_alloc _ o1)
      have ac_X0_3 := fun o => cell_b (c_X0_3) (below_alloc _ o)
      have bc_X0_3 := fun o o1 => cell_b (ac_X0_3 o) (below_alloc _ o1)
      have ac_X1_3 := fun o => cell_b (c_X1_3) (below_alloc _ o)
      have bc_X1_3 := fun o o1 => cell_b (ac_X1_3 o) (below_alloc _ o1)
      have af_C0_3 := fun o => frz_b (cell_lt (c_C0_3)) (f_C0_3) (below_alloc _ o)
      have bf_C0_3 := fun o o1 => frz_b (cell_lt (ac_C0_3 o)) (af_C0_3 o) (below_alloc _ o1)
      have af_C1_3 := fun o => frz_b (cell_lt (c_C1_3)) (f_C1_3) (below_alloc _ o)
      have bf_C1_3 := fun o o1 => frz_b (cell_lt (ac_C1_3 o)) (af_C1_3 o) (below_alloc _ o1)
      clear hb c_C0_2 c_C1_2 f_C0_2 f_C1_2 r_c_2 r_X0_2 r_X1_2 T_2 ac_C0_2 bc_C0_2 ac_C1_2 bc_C1_2 af_C0_2 bf_C0_2 af_C1_2 bf_C1_2 hY0 hY1
      go_wp2_with fail
      (with_reducible refine (I_GroupSame_q _ (0) (0) _ (([] : List Int)) _ (([] : List Int)) true (rdb_rd (rdb_b (r_X0_3.out) (below_alloc _ _))) (rdb_rd (rdb_b (r_Y0_3.out) (below_alloc _ _))) (by first | omega | (simp; done) | (simp; omega)) (by first | omega | (simp; done) | (simp; omega)) (by simp [eqB_self])).mono ?_)
      rintro e w4 ⟨rfl, hb⟩
      have c_C0_4 := cell_b (cell_b (c_C0_3) (below_alloc _ _)) hb
      have c_C1_4 := cell_b (cell_b (c_C1_3) (below_alloc _ _)) hb
      have c_X0_4 := cell_b (cell_b (c_X0_3) (below_alloc _ _)) hb
      have c_X1_4 := cell_b (cell_b (c_X1_3) (below_alloc _ _)) hb
      have f_C0_4 := frz_b (cell_lt (cell_b (c_C0_3) (below_alloc _ _))) (frz_b (cell_lt (c_C0_3)) (f_C0_3) (below_alloc _ _)) hb
      have f_C1_4 := frz_b (cell_lt (cell_b (c_C1_3) (below_alloc _ _))) (frz_b (cell_lt (c_C1_3)) (f_C1_3) (below_alloc _ _)) hb
      have c_Y0_4 := cell_b (p := ⟨w3.heap.size, 0, none⟩) (v := .int .i64 (0)) (by simp) hb
      have c_Y1_4 := cell_b (p := ⟨w3.heap.size, 1, none⟩) (v := .slice aY0 (0) cY0) (by simp) hb
      have r_c_4 := Lib.hid (rdb_b (rdb_b (r_c_3.out) (below_alloc _ _)) hb)
      have r_X0_4 := Lib.hid (rdb_b (rdb_b (r_X0_3.out) (below_alloc _ _)) hb)
      have r_X1_4 := Lib.hid (rdb_b (rdb_b (r_X1_3.out) (below_alloc _ _)) hb)
      have r_Y0_4 := Lib.hid (rdb_b (rdb_b (r_Y0_3.out) (below_alloc _ _)) hb)
      have r_Y1_4 := Lib.hid (rdb_b (rdb_b (r_Y1_3.out) (below_alloc _ _)) hb)
      have T_4 := Lib.hid (below_trans (below_trans (T_3.out) (below_alloc _ _)) hb)
      have z_4 : w3.heap.size + 1 ≤ w4.heap.size := (by have := hb.size; (try simp at this); omega)
      have ac_C0_4 := fun o => cell_b (c_C0_4) (below_alloc _ o)
      have bc_C0_4 := fun o o1 => cell_b (ac_C0_4 o) (below_alloc _ o1)
      have ac_C1_4 := fun o => cell_b (c_C1_4) (below_alloc _ o)
      have bc_C1_4 := fun o o1 => cell_b (ac_C1_4 o) (below_alloc _ o1)
      have ac_X0_4 := fun o => cell_b (c_X0_4) (below_alloc _ o)
      have bc_X0_4 := fun o o1 => cell_b (ac_X0_4 o) (below_alloc _ o1)
      have ac_X1_4 := fun o => cell_b (c_X1_4) (below_alloc _ o)
      have bc_X1_4 := fun o o1 => cell_b (ac_X1_4 o) (below_alloc _ o1)
      have ac_Y0_4 := fun o => cell_b (c_Y0_4) (below_alloc _ o)
      have bc_Y0_4 := fun o o1 => cell_b (ac_Y0_4 o) (below_alloc _ o1)
      have ac_Y1_4 := fun o => cell_b (c_Y1_4) (below_alloc _ o)
      have bc_Y1_4 := fun o o1 => cell_b (ac_Y1_4 o) (below_alloc _ o1)
      have af_C0_4 := fun o => frz_b (cell_lt (c_C0_4)) (f_C0_4) (below_alloc _ o)
      have bf_C0_4 := fun o o1 => frz_b (cell_lt (ac_C0_4 o)) (af_C0_4 o) (below_alloc _ o1)
      have af_C1_4 := fun o => frz_b (cell_lt (c_C1_4)) (f_C1_4) (below_alloc _ o)
      have bf_C1_4 := fun o o1 => frz_b (cell_lt (ac_C1_4 o)) (af_C1_4 o) (below_alloc _ o1)
      clear hb c_C0_3 c_C1_3 c_X0_3 c_X1_3 f_C0_3 f_C1_3 r_c_3 r_X0_3 r_X1_3 r_Y0_3 r_Y1_3 T_3 ac_C0_3 bc_C0_3 ac_C1_3 bc_C1_3 ac_X0_3 bc_X0_3 ac_X1_3 bc_X1_3 af_C0_3 bf_C0_3 af_C1_3 bf_C1_3
      go_wp2_with fail
      (with_reducible refine (eqB_true (drew_b (L_wkInts _ _ _ (([] : List Int)) (([] : List Int)) (rdb_rd (r_X1_4.out)) (rdb_rd (r_Y1_4.out)) (by first | omega | (simp; done) | (simp; omega)) (by first | omega | (simp; done) | (simp; omega))))).mono ?_)
      rintro e w5 ⟨rfl, hb⟩
      have c_C0_5 := cell_b (c_C0_4) hb
      have c_C1_5 := cell_b (c_C1_4) hb
      have c_X0_5 := cell_b (c_X0_4) hb
      have c_X1_5 := cell_b (c_X1_4) hb
      have c_Y0_5 := cell_b (c_Y0_4) hb
      have c_Y1_5 := cell_b (c_Y1_4) hb
      have f_C0_5 := frz_b (cell_lt (c_C0_4)) (f_C0_4) hb
      have f_C1_5 := frz_b (cell_lt (c_C1_4)) (f_C1_4) hb
      have r_c_5 := Lib.hid (rdb_b (r_c_4.out) hb)
      have r_X0_5 := Lib.hid (rdb_b (r_X0_4.out) hb)
      have r_X1_5 := Lib.hid (rdb_b (r_X1_4.out) hb)
      have r_Y0_5 := Lib.hid (rdb_b (r_Y0_4.out) hb)
      have r_Y1_5 := Lib.hid (rdb_b (r_Y1_4.out) hb)
      have T_5 := Lib.hid (below_trans (T_4.out) hb)
      have z_5 : w4.heap.size ≤ w5.heap.size := (by have := hb.size; (try simp at this); omega)
      have ac_C0_5 := fun o => cell_b (c_C0_5) (below_alloc _ o)
      have bc_C0_5 := fun o o1 => cell_b (ac_C0_5 o) (below_alloc _ o1)
      have ac_C1_5 := fun o => cell_b (c_C1_5) (below_alloc _ o)
      have bc_C1_5 := fun o o1 => cell_b (ac_C1_5 o) (below_alloc _ o1)
      have ac_X0_5 := fun o => cell_b (c_X0_5) (below_alloc _ o)
      have bc_X0_5 := fun o o1 => cell_b (ac_X0_5 o) (below_alloc _ o1)
      have ac_X1_5 := fun o => cell_b (c_X1_5) (below_alloc _ o)
      have bc_X1_5 := fun o o1 => cell_b (ac_X1_5 o) (below_alloc _ o1)
      have ac_Y0_5 := fun o => cell_b (c_Y0_5) (below_alloc _ o)
      have bc_Y0_5 := fun o o1 => cell_b (ac_Y0_5 o) (below_alloc _ o1)
      have ac_Y1_5 := fun o => cell_b (c_Y1_5) (below_alloc _ o)
      have bc_Y1_5 := fun o o1 => cell_b (ac_Y1_5 o) (below_alloc _ o1)
      have af_C0_5 := fun o => frz_b (cell_lt (c_C0_5)) (f_C0_5) (below_alloc _ o)
      have bf_C0_5 := fun o o1 => frz_b (cell_lt (ac_C0_5 o)) (af_C0_5 o) (below_alloc _ o1)
      have af_C1_5 := fun o => frz_b (cell_lt (c_C1_5)) (f_C1_5) (below_alloc _ o)
      have bf_C1_5 := fun o o1 => frz_b (cell_lt (ac_C1_5 o)) (af_C1_5 o) (below_alloc _ o1)
      clear hb c_C0_4 c_C1_4 c_X0_4 c_X1_4 c_Y0_4 c_Y1_4 f_C0_4 f_C1_4 r_c_4 r_X0_4 r_X1_4 r_Y0_4 r_Y1_4 T_4 ac_C0_4 bc_C0_4 ac_C1_4 bc_C1_4 ac_X0_4 bc_X0_4 ac_X1_4 bc_X1_4 ac_Y0_4 bc_Y0_4 ac_Y1_4 bc_Y1_4 af_C0_4 bf_C0_4 af_C1_4 bf_C1_4
      go_wp2_with fail
      (with_reducible refine (I_GroupSame_q _ (0) (0) _ (([] : List Int)) _ (([] : List Int)) true (rdb_rd (r_X0_5.out)) (rdb_rd (r_Y0_5.out)) (by first | omega | (simp; done) | (simp; omega)) (by first | omega | (simp; done) | (simp; omega)) (by simp [eqB_self])).mono ?_)
      rintro e w6 ⟨rfl, hb⟩
      have c_C0_6 := cell_b (c_C0_5) hb
      have c_C1_6 := cell_b (c_C1_5) hb
      have c_X0_6 := cell_b (c_X0_5) hb
      have c_X1_6 := cell_b (c_X1_5) hb
      have c_Y0_6 := cell_b (c_Y0_5) hb
      have c_Y1_6 := cell_b (c_Y1_5) hb
      have f_C0_6 := frz_b (cell_lt (c_C0_5)) (f_C0_5) hb
      have f_C1_6 := frz_b (cell_lt (c_C1_5)) (f_C1_5) hb
      have r_c_6 := Lib.hid (rdb_b (r_c_5.out) hb)
      have r_X0_6 := Lib.hid (rdb_b (r_X0_5.out) hb)
      have r_X1_6 := Lib.hid (rdb_b (r_X1_5.out) hb)
      have r_Y0_6 := Lib.hid (rdb_b (r_Y0_5.out) hb)
      have r_Y1_6 := Lib.hid (rdb_b (r_Y1_5.out) hb)
      have T_6 := Lib.hid (below_trans (T_5.out) hb)
      have z_6 : w5.heap.size ≤ w6.heap.size := (by have := hb.size; (try simp at this); omega)
      have ac_C0_6 := fun o => cell_b (c_C0_6) (below_alloc _ o)
      have bc_C0_6 := fun o o1 => cell_b (ac_C0_6 o) (below_alloc _ o1)
      have ac_C1_6 := fun o => cell_b (c_C1_6) (below_alloc _ o)
      have bc_C1_6 := fun o o1 => cell_b (ac_C1_6 o) (below_alloc _ o1)
      have ac_X0_6 := fun o => cell_b (c_X0_6) (below_alloc _ o)
      have bc_X0_6 := fun o o1 => cell_b (ac_X0_6 o) (below_alloc _ o1)
      have ac_X1_6 := fun o => cell_b (c_X1_6) (below_alloc _ o)
      have bc_X1_6 := fun o o1 => cell_b (ac_X1_6 o) (below_alloc _ o1)
      have ac_Y0_6 := fun o => cell_b (c_Y0_6) (below_alloc _ o)
      have bc_Y0_6 := fun o o1 => cell_b (ac_Y0_6 o) (below_alloc _ o1)
      have ac_Y1_6 := fun o => cell_b (c_Y1_6) (below_alloc _ o)
      have bc_Y1_6 := fun o o1 => cell_b (ac_Y1_6 o) (below_alloc _ o1)
      have af_C0_6 := fun o => frz_b (cell_lt (c_C0_6)) (f_C0_6) (below_alloc _ o)
      have bf_C0_6 := fun o o1 => frz_b (cell_lt (ac_C0_6 o)) (af_C0_6 o) (below_alloc _ o1)
      have af_C1_6 := fun o => frz_b (cell_lt (c_C1_6)) (f_C1_6) (below_alloc _ o)
      have bf_C1_6 := fun o o1 => frz_b (cell_lt (ac_C1_6 o)) (af_C1_6 o) (below_alloc _ o1)
      clear hb c_C0_5 c_C1_5 c_X0_5 c_X1_5 c_Y0_5 c_Y1_5 f_C0_5 f_C1_5 r_c_5 r_X0_5 r_X1_5 r_Y0_5 r_Y1_5 T_5 ac_C0_5 bc_C0_5 ac_C1_5 bc_C1_5 ac_X0_5 bc_X0_5 ac_X1_5 bc_X1_5 ac_Y0_5 bc_Y0_5 ac_Y1_5 bc_Y1_5 af_C0_5 bf_C0_5 af_C1_5 bf_C1_5
      go_wp2_with fail
      (with_reducible refine (eqB_true (drew_b (L_wkInts _ _ _ (([] : List Int)) (([] : List Int)) (rdb_rd (r_X1_6.out)) (rdb_rd (r_Y1_6.out)) (by first | omega | (simp; done) | (simp; omega)) (by first | omega | (simp; done) | (simp; omega))))).mono ?_)
      rintro e w7 ⟨rfl, hb⟩
      have c_C0_7 := cell_b (c_C0_6) hb
      have c_C1_7 := cell_b (c_C1_6) hb
      have c_X0_7 := cell_b (c_X0_6) hb
      have c_X1_7 := cell_b (c_X1_6) hb
      have c_Y0_7 := cell_b (c_Y0_6) hb
      have c_Y1_7 := cell_b (c_Y1_6) hb
      have f_C0_7 := frz_b (cell_lt (c_C0_6)) (f_C0_6) hb
      have f_C1_7 := frz_b (cell_lt (c_C1_6)) (f_C1_6) hb
      have r_c_7 := Lib.hid (rdb_b (r_c_6.out) hb)
      have r_X0_7 := Lib.hid (rdb_b (r_X0_6.out) hb)
      have r_X1_7 := Lib.hid (rdb_b (r_X1_6.out) hb)
      have r_Y0_7 := Lib.hid (rdb_b (r_Y0_6.out) hb)
      have r_Y1_7 := Lib.hid (rdb_b (r_Y1_6.out) hb)
      have T_7 := Lib.hid (below_trans (T_6.out) hb)
      have z_7 : w6.heap.size ≤ w7.heap.size := (by have := hb.size; (try simp at this); omega)
      have ac_C0_7 := fun o => cell_b (c_C0_7) (below_alloc _ o)
      have bc_C0_7 := fun o o1 => cell_b (ac_C0_7 o) (below_alloc _ o1)
      have ac_C1_7 := fun o => cell_b (c_C1_7) (below_alloc _ o)
      have bc_C1_7 := fun o o1 => cell_b (ac_C1_7 o) (below_alloc _ o1)
      have ac_X0_7 := fun o => cell_b (c_X0_7) (below_alloc _ o)
      have bc_X0_7 := fun o o1 => cell_b (ac_X0_7 o) (below_alloc _ o1)
      have ac_X1_7 := fun o => cell_b (c_X1_7) (below_alloc _ o)
      have bc_X1_7 := fun o o1 => cell_b (ac_X1_7 o) (below_alloc _ o1)
      have ac_Y0_7 := fun o => cell_b (c_Y0_7) (below_alloc _ o)
      have bc_Y0_7 := fun o o1 => cell_b (ac_Y0_7 o) (below_alloc _ o1)
      have ac_Y1_7 := fun o => cell_b (c_Y1_7) (below_alloc _ o)
      have bc_Y1_7 := fun o o1 => cell_b (ac_Y1_7 o) (below_alloc _ o1)
      have af_C0_7 := fun o => frz_b (cell_lt (c_C0_7)) (f_C0_7) (below_alloc _ o)
      have bf_C0_7 := fun o o1 => frz_b (cell_lt (ac_C0_7 o)) (af_C0_7 o) (below_alloc _ o1)
      have af_C1_7 := fun o => frz_b (cell_lt (c_C1_7)) (f_C1_7) (below_alloc _ o)
      have bf_C1_7 := fun o o1 => frz_b (cell_lt (ac_C1_7 o)) (af_C1_7 o) (below_alloc _ o1)
      clear hb c_C0_6 c_C1_6 c_X0_6 c_X1_6 c_Y0_6 c_Y1_6 f_C0_6 f_C1_6 r_c_6 r_X0_6 r_X1_6 r_Y0_6 r_Y1_6 T_6 ac_C0_6 bc_C0_6 ac_C1_6 bc_C1_6 ac_X0_6 bc_X0_6 ac_X1_6 bc_X1_6 ac_Y0_6 bc_Y0_6 ac_Y1_6 bc_Y1_6 af_C0_6 bf_C0_6 af_C1_6 bf_C1_6
      go_wp2_with fail
      go_ret
      exact ⟨rfl, (T_7.out)⟩
end Go.Proofs.Ytgdhbhgkfcgjdaa
