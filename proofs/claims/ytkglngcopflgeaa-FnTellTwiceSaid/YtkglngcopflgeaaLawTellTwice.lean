/- The law FnTellTwice: the walk. -/
import Derived.Test.YtkglngcopflgeaaDrawCond
import Derived.Test.YtkglngcopflgeaaQuickCond
import Derived.Test.YtkglngcopflgeaaPlainCond
import Derived.Test.YtkglngcopflgeaaGuard
import Derived.Deep.RegionHeld3
import Derived.Deep.DrawnRows
namespace Go.Proofs.Ytkglngcopflgeaa
open Go.RowKit
attribute [local go_sem ↓] Go.wp_at_zero Go.wp_at_succ
/-- At the head of FnTellTwice's loop: k were told, one after the other. -/
def TTHead (w : World) (xs : List Int) (BC BA : Nat) (vw va vi : Value) (wr : World) : Prop :=
  ∃ (k : Nat) (Y Z : List Int) (aA : Option Addr) (cA : Nat) (ad : Option Addr) (cd : Nat), k ≤ 7 ∧ vi = .int .i64 (k : Int) ∧ va = .slice aA Y.length cA ∧ Ow wr BA (.slice aA Y.length cA) Y ∧
    wr.cell? ⟨BC, 0, none⟩ = some (.slice ad Z.length cd) ∧ wr.frozen? ⟨BC, 0, none⟩ = false ∧ RdB wr w.heap.size (.slice ad Z.length cd) Z ∧ RdB wr w.heap.size vw xs ∧ Y = xs.take k ∧ Z = xs.drop k ∧ Below w.heap.size w wr ∧ BA < wr.heap.size
theorem tt_next {xs : List Int} {k : Nat} (h : vt xs = true) : ∃ H T, (xs.drop k).take 1 = H ∧ (xs.drop k).tail = T ∧ H.length ≤ 1 ∧ vt (xs.drop k) = true ∧ xs.take k ++ H = xs.take (k + 1) ∧ T = xs.drop (k + 1) := by
  refine ⟨_, _, rfl, rfl, by simp; omega, ?_, ?_, ?_⟩
  · rw [vt_iff] at h ⊢
    exact ⟨by have := h.1; simp; omega, fun x hx => h.2.1 x (List.mem_of_mem_drop hx), h.2.2.sublist (List.drop_sublist _ _)⟩
  · rw [List.take_add]
  · rw [List.tail_drop]
set_option maxHeartbeats 4000000 in
set_option maxRecDepth 100000 in
theorem W_FnTellTwice (w : World) (v : Value) (n : Nat) (hv : RdY w v n) (hm : n ≤ 9223372036854775807) :
    Calls Try.prog 6 #[v] w fun e w' => e = .returned (.bool true) ∧ Below w.heap.size w w' := by
  have HV := Lib.hid hv
  obtain ⟨a, cap, rfl, hcap, hnc, hr⟩ := hv
  clear hr hnc
  by_cases hbig : 1048576 < n
  · go_enter Try.func6, Try.ntmps6
    go_wp2
    go_ret
    exact ⟨rfl, Below.refl _ _⟩
  · obtain ⟨i0, hi, hz0, hz1, hz2⟩ := info_parts info3
    go_enter Try.func6, Try.ntmps6
    have T_0 : Hid (Below w.heap.size w w) := Lib.hid (Below.refl _ _)
    skip
    go_wp2_with fail
    (with_reducible refine (S_DrawTellAll _ _ n HV.out (by omega)).mono ?_)
    rintro e w1 ⟨xs, a1, c1, rfl, hx, hd, hb⟩
    have T_1 := Lib.hid (below_trans (T_0.out) hb)
    have z_1 : w.heap.size ≤ w1.heap.size := (by have := hb.size; (try simp at this); omega)
    have r_c_1 := Lib.hid (rdb_mono hd (show w.heap.size ≤ _ by first | omega | (simp; done) | (simp; omega)))
    have lr_c := Lib.hid (rdb_lo r_c_1.out)
    have hr_c := Lib.hid (rdb_hi r_c_1.out)
    clear hb T_0 hd
    by_cases hv1 : vt xs = true
    · have HV1 : Hid (vt xs = true) := Lib.hid (by simpa using hv1)
      clear hv1
      have HQ1 : Hid (okL (vt xs) xs = xs) := Lib.hid (by simp [HV1.out, okL])
      have HQ2 : Hid (vt xs = true) := Lib.hid (HV1.out)
      go_wp2_with fail
      (with_reducible refine (I_TellAll_q _  _ (xs)  (([] : List Int)) (xs) (true) (0) ((xs).length) (rdb_rd (rdb_b (r_c_1.out) (below_alloc _ _))) (by first | omega | (simp; done) | (simp; omega)) rfl HQ1.out HQ2.out rfl rfl).mono ?_)
      rintro e w2 ⟨aX0, cX0, aX1, cX1, rfl, hX0, hX1, hb⟩
      have c_C0_2 := cell_b (p := ⟨w1.heap.size, 0, none⟩) (v := .slice a1 xs.length c1) (by simp) hb
      have f_C0_2 := frz_b (p := ⟨w1.heap.size, 0, none⟩) (by first | omega | (simp; done) | (simp; omega)) (show _ = false by simp) hb
      have r_c_2 := Lib.hid (rdb_b (rdb_b (r_c_1.out) (below_alloc _ _)) hb)
      have T_2 := Lib.hid (below_trans (below_trans (T_1.out) (below_alloc _ _)) hb)
      have z_2 : w1.heap.size + 1 ≤ w2.heap.size := (by have := hb.size; (try simp at this); omega)
      have r_X0_2 := Lib.hid (rdb_mono hX0 (show w1.heap.size + 1 ≤ _ by first | omega | (simp; done) | (simp; omega)))
      have lr_X0 := Lib.hid (rdb_lo r_X0_2.out)
      have hr_X0 := Lib.hid (rdb_hi r_X0_2.out)
      have r_X1_2 := Lib.hid (rdb_mono hX1 (show w1.heap.size + 1 ≤ _ by first | omega | (simp; done) | (simp; omega)))
      have lr_X1 := Lib.hid (rdb_lo r_X1_2.out)
      have hr_X1 := Lib.hid (rdb_hi r_X1_2.out)
      have ac_C0_2 := fun o => cell_b (c_C0_2) (below_alloc _ o)
      have bc_C0_2 := fun o o1 => cell_b (ac_C0_2 o) (below_alloc _ o1)
      have af_C0_2 := fun o => frz_b (cell_lt (c_C0_2)) (f_C0_2) (below_alloc _ o)
      have bf_C0_2 := fun o o1 => frz_b (cell_lt (ac_C0_2 o)) (af_C0_2 o) (below_alloc _ o1)
      clear hb r_c_1 T_1 hX0 hX1
      go_wp2_with fail
      (with_reducible refine (S_TellAll_q _  _ (xs)  (([] : List Int)) (xs) (true) (0) ((xs).length) (rdb_rd (rdb_b (r_c_2.out) (below_alloc _ _))) (by first | omega | (simp; done) | (simp; omega)) rfl HQ1.out HQ2.out rfl rfl).mono ?_)
      rintro e w3 ⟨aY0, cY0, aY1, cY1, rfl, hY0, hY1, hb⟩
      have c_C0_3 := cell_b (cell_b (c_C0_2) (below_alloc _ _)) hb
      have f_C0_3 := frz_b (cell_lt (cell_b (c_C0_2) (below_alloc _ _))) (frz_b (cell_lt (c_C0_2)) (f_C0_2) (below_alloc _ _)) hb
      have c_X0_3 := cell_b (p := ⟨w2.heap.size, 0, none⟩) (v := .slice aX0 (0) cX0) (by simp) hb
      have r_c_3 := Lib.hid (rdb_b (rdb_b (r_c_2.out) (below_alloc _ _)) hb)
      have r_X0_3 := Lib.hid (rdb_b (rdb_b (r_X0_2.out) (below_alloc _ _)) hb)
      have r_X1_3 := Lib.hid (rdb_b (rdb_b (r_X1_2.out) (below_alloc _ _)) hb)
      have T_3 := Lib.hid (below_trans (below_trans (T_2.out) (below_alloc _ _)) hb)
      have z_3 : w2.heap.size + 1 ≤ w3.heap.size := (by have := hb.size; (try simp at this); omega)
      have r_Y0_3 := Lib.hid (rdb_mono hY0 (show w2.heap.size + 1 ≤ _ by first | omega | (simp; done) | (simp; omega)))
      have lr_Y0 := Lib.hid (rdb_lo r_Y0_3.out)
      have hr_Y0 := Lib.hid (rdb_hi r_Y0_3.out)
      have r_Y1_3 := Lib.hid (rdb_mono hY1 (show w2.heap.size + 1 ≤ _ by first | omega | (simp; done) | (simp; omega)))
      have lr_Y1 := Lib.hid (rdb_lo r_Y1_3.out)
      have hr_Y1 := Lib.hid (rdb_hi r_Y1_3.out)
      have ac_C0_3 := fun o => cell_b (c_C0_3) (below_alloc _ o)
      have bc_C0_3 := fun o o1 => cell_b (ac_C0_3 o) (below_alloc _ o1)
      have ac_X0_3 := fun o => cell_b (c_X0_3) (below_alloc _ o)
      have bc_X0_3 := fun o o1 => cell_b (ac_X0_3 o) (below_alloc _ o1)
      have af_C0_3 := fun o => frz_b (cell_lt (c_C0_3)) (f_C0_3) (below_alloc _ o)
      have bf_C0_3 := fun o o1 => frz_b (cell_lt (ac_C0_3 o)) (af_C0_3 o) (below_alloc _ o1)
      clear hb c_C0_2 f_C0_2 r_c_2 r_X0_2 r_X1_2 T_2 ac_C0_2 bc_C0_2 af_C0_2 bf_C0_2 hY0 hY1
      go_wp2_with fail
      (with_reducible refine (eqB_true (drew_b (L_wkInts _ _ _ (([] : List Int)) (([] : List Int)) (rdb_rd (rdb_b (r_X0_3.out) (below_alloc _ _))) (rdb_rd (rdb_b (r_Y0_3.out) (below_alloc _ _))) (by first | omega | (simp; done) | (simp; omega)) (by first | omega | (simp; done) | (simp; omega))))).mono ?_)
      rintro e w4 ⟨rfl, hb⟩
      have c_C0_4 := cell_b (cell_b (c_C0_3) (below_alloc _ _)) hb
      have c_X0_4 := cell_b (cell_b (c_X0_3) (below_alloc _ _)) hb
      have f_C0_4 := frz_b (cell_lt (cell_b (c_C0_3) (below_alloc _ _))) (frz_b (cell_lt (c_C0_3)) (f_C0_3) (below_alloc _ _)) hb
      have c_Y0_4 := cell_b (p := ⟨w3.heap.size, 0, none⟩) (v := .slice aY0 (0) cY0) (by simp) hb
      have r_c_4 := Lib.hid (rdb_b (rdb_b (r_c_3.out) (below_alloc _ _)) hb)
      have r_X0_4 := Lib.hid (rdb_b (rdb_b (r_X0_3.out) (below_alloc _ _)) hb)
      have r_X1_4 := Lib.hid (rdb_b (rdb_b (r_X1_3.out) (below_alloc _ _)) hb)
      have r_Y0_4 := Lib.hid (rdb_b (rdb_b (r_Y0_3.out) (below_alloc _ _)) hb)
      have r_Y1_4 := Lib.hid (rdb_b (rdb_b (r_Y1_3.out) (below_alloc _ _)) hb)
      have T_4 := Lib.hid (below_trans (below_trans (T_3.out) (below_alloc _ _)) hb)
      have z_4 : w3.heap.size + 1 ≤ w4.heap.size := (by have := hb.size; (try simp at this); omega)
      have ac_C0_4 := fun o => cell_b (c_C0_4) (below_alloc _ o)
      have bc_C0_4 := fun o o1 => cell_b (ac_C0_4 o) (below_alloc _ o1)
      have ac_X0_4 := fun o => cell_b (c_X0_4) (below_alloc _ o)
      have bc_X0_4 := fun o o1 => cell_b (ac_X0_4 o) (below_alloc _ o1)
      have ac_Y0_4 := fun o => cell_b (c_Y0_4) (below_alloc _ o)
      have bc_Y0_4 := fun o o1 => cell_b (ac_Y0_4 o) (below_alloc _ o1)
      have af_C0_4 := fun o => frz_b (cell_lt (c_C0_4)) (f_C0_4) (below_alloc _ o)
      have bf_C0_4 := fun o o1 => frz_b (cell_lt (ac_C0_4 o)) (af_C0_4 o) (below_alloc _ o1)
      clear hb c_C0_3 c_X0_3 f_C0_3 r_c_3 r_X0_3 r_X1_3 r_Y0_3 r_Y1_3 T_3 ac_C0_3 bc_C0_3 ac_X0_3 bc_X0_3 af_C0_3 bf_C0_3
      go_wp2_with fail
      (with_reducible refine (eqB_true (drew_b (L_wkInts _ _ _ (xs) (xs) (rdb_rd (r_X1_4.out)) (rdb_rd (r_Y1_4.out)) (by first | omega | (simp; done) | (simp; omega)) (by first | omega | (simp; done) | (simp; omega))))).mono ?_)
      rintro e w5 ⟨rfl, hb⟩
      have c_C0_5 := cell_b (c_C0_4) hb
      have c_X0_5 := cell_b (c_X0_4) hb
      have c_Y0_5 := cell_b (c_Y0_4) hb
      have f_C0_5 := frz_b (cell_lt (c_C0_4)) (f_C0_4) hb
      have r_c_5 := Lib.hid (rdb_b (r_c_4.out) hb)
      have r_X0_5 := Lib.hid (rdb_b (r_X0_4.out) hb)
      have r_X1_5 := Lib.hid (rdb_b (r_X1_4.out) hb)
      have r_Y0_5 := Lib.hid (rdb_b (r_Y0_4.out) hb)
      have r_Y1_5 := Lib.hid (rdb_b (r_Y1_4.out) hb)
      have T_5 := Lib.hid (below_trans (T_4.out) hb)
      have z_5 : w4.heap.size ≤ w5.heap.size := (by have := hb.size; (try simp at this); omega)
      have ac_C0_5 := fun o => cell_b (c_C0_5) (below_alloc _ o)
      have bc_C0_5 := fun o o1 => cell_b (ac_C0_5 o) (below_alloc _ o1)
      have ac_X0_5 := fun o => cell_b (c_X0_5) (below_alloc _ o)
      have bc_X0_5 := fun o o1 => cell_b (ac_X0_5 o) (below_alloc _ o1)
      have ac_Y0_5 := fun o => cell_b (c_Y0_5) (below_alloc _ o)
      have bc_Y0_5 := fun o o1 => cell_b (ac_Y0_5 o) (below_alloc _ o1)
      have af_C0_5 := fun o => frz_b (cell_lt (c_C0_5)) (f_C0_5) (below_alloc _ o)
      have bf_C0_5 := fun o o1 => frz_b (cell_lt (ac_C0_5 o)) (af_C0_5 o) (below_alloc _ o1)
      clear hb c_C0_4 c_X0_4 c_Y0_4 f_C0_4 r_c_4 r_X0_4 r_X1_4 r_Y0_4 r_Y1_4 T_4 ac_C0_4 bc_C0_4 ac_X0_4 bc_X0_4 ac_Y0_4 bc_Y0_4 af_C0_4 bf_C0_4
      clear r_Y0_5 lr_Y0 hr_Y0 r_Y1_5 lr_Y1 hr_Y1 c_Y0_5 ac_Y0_5 bc_Y0_5 r_X0_5 lr_X0 hr_X0 c_X0_5 ac_X0_5 bc_X0_5
      go_wp2_with fail
      go_loopw [10, 11, 12, 13, 14] (fun va vi _ _ _ wr => TTHead w xs (w1.heap.size) (w5.heap.size) (.slice aX1 xs.length cX1) va vi wr) (fun _ i _ _ _ _ => (7 - intOf i).toNat)
      case atStart => exact ⟨0, [], xs, _, _, a1, c1, by omega, rfl, rfl, ow_made w5 _ (Nat.le_refl _), cell_b c_C0_5 (below_alloc _ _), frz_b (cell_lt c_C0_5) f_C0_5 (below_alloc _ _), rdb_b r_c_5.out (below_alloc _ _), rdb_mono (rdb_b r_X1_5.out (below_alloc _ _)) (by omega), by simp, by simp, below_trans T_5.out (below_alloc _ _), by first | omega | (simp; done) | (simp; omega)⟩
      case round =>
        obtain ⟨k, Y, Z, aA, cA, ad, cd, hk7, rfl, rfl, hoA, hcC, hfC, hrd, hrw, hY, hZ, hbl, hBA⟩ := hrel
        obtain ⟨wo, rfl⟩ : ∃ wo : World, wo = wr := ⟨_, rfl⟩
        obtain ⟨w30, rfl⟩ : ∃ w30 : World, w30 = wo := ⟨_, rfl⟩
        have o_A_30 := Lib.hid hoA
        have lo_A := Lib.hid (own_lo hoA)
        have hi_A := Lib.hid (own_hi hoA)
        have r_d_30 := Lib.hid hrd
        have lr_d := Lib.hid (rdb_lo hrd)
        have hr_d := Lib.hid (rdb_hi hrd)
        have r_W_30 := Lib.hid hrw
        have lr_W := lr_X1
        have hr_W := hr_X1
        have c_C0_30 := hcC
        have f_C0_30 := hfC
        have T_30 := Lib.hid hbl
        have hz30 := hbl.size
        have HZ := Lib.hid hZ
        have HY := Lib.hid hY
        have hYl : Y.length ≤ 5 := by subst hY; simp; omega
        have hZl : Z.length ≤ 5 := by subst hZ; simp; omega
        clear hoA hcC hfC hrd hrw hY hZ hbl r_c_5 r_X1_5 T_5 c_C0_5 f_C0_5 ac_C0_5 bc_C0_5 af_C0_5 bf_C0_5
        by_cases hlt : k < 7
        · obtain ⟨H, T, e1, e2, hH1, e3, e4, e5⟩ := tt_next (k := k) HV1.out
          rw [← HZ.out] at e1 e2 e3
          rw [← HY.out] at e4
          have E1 : Hid (okL (vt Z) (Z.take 1) = H) := Lib.hid (by rw [e3]; exact e1)
          have E2 : Hid (okL (vt Z) Z.tail = T) := Lib.hid (by rw [e3]; exact e2)
          have E3 := Lib.hid e3
          have E4 := Lib.hid e4
          have E5 := Lib.hid e5
          clear e1 e2 e3 e4 e5
          go_wp2_with fail
          (with_reducible refine (I_TellOne_q _  _ (Z)  (T) (H) (true) ((T).length) ((H).length) (rdb_rd (r_d_30.out)) (by first | omega | (simp; done) | (simp; omega)) E2.out E1.out E3.out rfl rfl).mono ?_)
          rintro e w31 ⟨aN0, cN0, aN1, cN1, rfl, hN0, hN1, hb⟩
          have c_C0_31 := cell_b (c_C0_30) hb
          have f_C0_31 := frz_b (cell_lt (c_C0_30)) (f_C0_30) hb
          have o_A_31 := Lib.hid (own_below (o_A_30.out) hb)
          have r_d_31 := Lib.hid (rdb_b (r_d_30.out) hb)
          have r_W_31 := Lib.hid (rdb_b (r_W_30.out) hb)
          have T_31 := Lib.hid (below_trans (T_30.out) hb)
          have z_31 : w30.heap.size ≤ w31.heap.size := (by have := hb.size; (try simp at this); omega)
          have r_N0_31 := Lib.hid (rdb_mono hN0 (show w30.heap.size ≤ _ by first | omega | (simp; done) | (simp; omega)))
          have lr_N0 := Lib.hid (rdb_lo r_N0_31.out)
          have hr_N0 := Lib.hid (rdb_hi r_N0_31.out)
          have r_N1_31 := Lib.hid (rdb_mono hN1 (show w30.heap.size ≤ _ by first | omega | (simp; done) | (simp; omega)))
          have lr_N1 := Lib.hid (rdb_lo r_N1_31.out)
          have hr_N1 := Lib.hid (rdb_hi r_N1_31.out)
          have ac_C0_31 := fun o => cell_b (c_C0_31) (below_alloc _ o)
          have bc_C0_31 := fun o o1 => cell_b (ac_C0_31 o) (below_alloc _ o1)
          have af_C0_31 := fun o => frz_b (cell_lt (c_C0_31)) (f_C0_31) (below_alloc _ o)
          have bf_C0_31 := fun o o1 => frz_b (cell_lt (ac_C0_31 o)) (af_C0_31 o) (below_alloc _ o1)
          clear hb c_C0_30 f_C0_30 o_A_30 r_d_30 r_W_30 T_30 hN0 hN1
          clear r_d_31 lr_d hr_d
          have tok32 : True := trivial
          go_wp2_with (first | (at_builtin; have _t := tok32; refine wpList_append_rd_w (by rfl) _ _ 24 rfl ((w5.heap.size)) i0 Try.underlying24 hi hz0 hz1 hz2 (.slice aA Y.length cA) (Y.length) (Y) rfl (own_below (o_A_31.out) (below_alloc _ _)) _ _ _ (H) rfl (rdb_rd (rdb_b (r_N1_31.out) (below_alloc _ _))) rfl (by unfold maxLen; omega) (by omega) (by first | omega | (simp; done) | (simp; omega)) ?_; intro v32 w32 hown hgr hloc; clear tok32; have ho : w32.ownsRow ((w5.heap.size)) 3 1 v32 (Y.length + (H).length) (ints (Y ++ H)) := (by exact hown); obtain ⟨aB, cB, hv⟩ := own_shape ho; subst hv; have iv_A2 : Hid (∀ g, (Value.slice aB (Y.length + (H).length) cB).ownBlock = some g → (w5.heap.size ≤ g ∧ g < w30.heap.size) ∨ (w31.heap.size + 1 ≤ g ∧ g < w32.heap.size)) := Lib.hid (fun g h => by have h9 := hgr.size; have h7 := own_hi ho g h; rcases hloc with h8 | h8 <;> rw [h8] at h <;> first | (have h1 := lo_A.out g h; have h2 := hi_A.out g h; (try simp at h9); omega) | (injection h with h; (try simp at h9); (try simp at h); omega)); have c_C0_32 := cell_gr (cell_b (c_C0_31) (below_alloc _ _)) hgr (fun g h => by have h1 := lo_A.out g h; have h2 := hi_A.out g h; show w1.heap.size ≠ g; omega); have f_C0_32 := (frz_gr (p := ⟨w1.heap.size, 0, none⟩) (cell_lt (cell_b (c_C0_31) (below_alloc _ _))) hgr (fun g h => by have h1 := lo_A.out g h; have h2 := hi_A.out g h; show w1.heap.size ≠ g; omega)).trans (frz_b (cell_lt (c_C0_31)) (f_C0_31) (below_alloc _ _)); have c_N0_32 := cell_gr (p := ⟨w31.heap.size, 0, none⟩) (v := .slice aN0 ((T).length) cN0) (by simp) hgr (fun g h => by have h1 := lo_A.out g h; have h2 := hi_A.out g h; show w31.heap.size ≠ g; omega); have r_W_32 := Lib.hid (rdb_gr (rdb_b (r_W_31.out) (below_alloc _ _)) hgr (fun g g' h h' => by have h1 := lo_A.out g h; have h2 := hi_A.out g h; have h3 := lr_W.out g' h'; have h4 := hr_W.out g' h'; omega)); have r_N0_32 := Lib.hid (rdb_gr (rdb_b (r_N0_31.out) (below_alloc _ _)) hgr (fun g g' h h' => by have h1 := lo_A.out g h; have h2 := hi_A.out g h; have h3 := lr_N0.out g' h'; have h4 := hr_N0.out g' h'; omega)); have r_N1_32 := Lib.hid (rdb_gr (rdb_b (r_N1_31.out) (below_alloc _ _)) hgr (fun g g' h h' => by have h1 := lo_A.out g h; have h2 := hi_A.out g h; have h3 := lr_N1.out g' h'; have h4 := hr_N1.out g' h'; omega)); have T_32 := Lib.hid (below_gr (below_trans (T_31.out) (below_alloc _ _)) (by first | omega | (simp; done) | (simp; omega)) hgr (fun g h => by have h1 := lo_A.out g h; have h2 := hi_A.out g h; omega)); have z_32 : w31.heap.size + 1 ≤ w32.heap.size := (by have := hgr.size; (try simp at this); omega); have o_A2_32 := Lib.hid ho; have lo_A2 := Lib.hid (own_lo o_A2_32.out); have hi_A2 := Lib.hid (own_hi o_A2_32.out); have ac_C0_32 := fun o => cell_b (c_C0_32) (below_alloc _ o); have bc_C0_32 := fun o o1 => cell_b (ac_C0_32 o) (below_alloc _ o1); have ac_N0_32 := fun o => cell_b (c_N0_32) (below_alloc _ o); have bc_N0_32 := fun o o1 => cell_b (ac_N0_32 o) (below_alloc _ o1); have af_C0_32 := fun o => frz_b (cell_lt (c_C0_32)) (f_C0_32) (below_alloc _ o); have bf_C0_32 := fun o o1 => frz_b (cell_lt (ac_C0_32 o)) (af_C0_32 o) (below_alloc _ o1); clear hgr c_C0_31 f_C0_31 r_W_31 r_N0_31 r_N1_31 T_31 ac_C0_31 bc_C0_31 af_C0_31 bf_C0_31 hown ho hloc o_A_31 lo_A hi_A))
          go_wp2_with fail
          have e9 : (Y ++ H).length = Y.length + H.length := by simp
          go_roundw
          case rel => exact ⟨k + 1, Y ++ H, T, aB, cB, aN0, cN0, by omega, by go_num, by simp, (by rw [e9]; exact ow_eq (own_set (p := ⟨w1.heap.size, 0, none⟩) (o_A2_32.out) (fun g h => by have h1 := lo_A2.out g h; have h2 := hi_A2.out g h; have h5 := iv_A2.out g h; show g ≠ w1.heap.size; omega) _) rfl e9.symm), World.cell?_setCell_same _ _ _ (c_C0_32), (World.frozen?_setCell _ _ _ _).trans (f_C0_32), rdb_mono (rdb_set (p := ⟨w1.heap.size, 0, none⟩) (r_N0_32.out) (fun g h => by have h1 := lr_N0.out g h; have h2 := hr_N0.out g h; show g ≠ w1.heap.size; omega) _) hz30, (rdb_set (p := ⟨w1.heap.size, 0, none⟩) (r_W_32.out) (fun g h => by have h1 := lr_W.out g h; have h2 := hr_W.out g h; show g ≠ w1.heap.size; omega) _), E4.out, E5.out, ((T_32.out).setCell (p := ⟨w1.heap.size, 0, none⟩) (by show w.heap.size ≤ w1.heap.size; omega) _), Nat.lt_of_lt_of_le (show w5.heap.size < w32.heap.size by omega) (gr_set w32 ⟨w1.heap.size, 0, none⟩ _).size⟩
          case measure => simp [intOf]; omega
        · obtain rfl : k = 7 := by omega
          have EY : Hid (Y = xs) := Lib.hid (by rw [HY.out]; exact List.take_of_length_le (by omega))
          have o_F_30 := Lib.hid (ow_eq o_A_30.out EY.out (by rw [EY.out]))
          have lo_F := lo_A
          have hi_F := hi_A
          go_wp2_with fail
          (with_reducible refine (eqB_true (drew_b (L_wkInts _ _ _ (xs) (xs) (own_rd (o_F_30.out)) (rdb_rd (r_W_30.out)) (by first | omega | (simp; done) | (simp; omega)) (by first | omega | (simp; done) | (simp; omega))))).mono ?_)
          rintro e w31 ⟨rfl, hb⟩
          have o_F_31 := Lib.hid (own_below (o_F_30.out) hb)
          have r_W_31 := Lib.hid (rdb_b (r_W_30.out) hb)
          have T_31 := Lib.hid (below_trans (T_30.out) hb)
          have z_31 : w30.heap.size ≤ w31.heap.size := (by have := hb.size; (try simp at this); omega)
          clear hb o_F_30 r_W_30 T_30
          go_wp2_with fail
          go_ret
          exact ⟨rfl, (T_31.out)⟩
    · have HV1 : Hid (vt xs = false) := Lib.hid (by simpa using hv1)
      clear hv1
      have HQ1 : Hid (okL (vt xs) xs = ([] : List Int)) := Lib.hid (by simp [HV1.out, okL])
      have HQ2 : Hid (vt xs = false) := Lib.hid (HV1.out)
      go_wp2_with fail
      (with_reducible refine (I_TellAll_q _  _ (xs)  (([] : List Int)) (([] : List Int)) (false) (0) (0) (rdb_rd (rdb_b (r_c_1.out) (below_alloc _ _))) (by first | omega | (simp; done) | (simp; omega)) rfl HQ1.out HQ2.out rfl rfl).mono ?_)
      rintro e w2 ⟨aX0, cX0, aX1, cX1, rfl, hX0, hX1, hb⟩
      have c_C0_2 := cell_b (p := ⟨w1.heap.size, 0, none⟩) (v := .slice a1 xs.length c1) (by simp) hb
      have f_C0_2 := frz_b (p := ⟨w1.heap.size, 0, none⟩) (by first | omega | (simp; done) | (simp; omega)) (show _ = false by simp) hb
      have r_c_2 := Lib.hid (rdb_b (rdb_b (r_c_1.out) (below_alloc _ _)) hb)
      have T_2 := Lib.hid (below_trans (below_trans (T_1.out) (below_alloc _ _)) hb)
      have z_2 : w1.heap.size + 1 ≤ w2.heap.size := (by have := hb.size; (try simp at this); omega)
      have r_X0_2 := Lib.hid (rdb_mono hX0 (show w1.heap.size + 1 ≤ _ by first | omega | (simp; done) | (simp; omega)))
      have lr_X0 := Lib.hid (rdb_lo r_X0_2.out)
      have hr_X0 := Lib.hid (rdb_hi r_X0_2.out)
      have r_X1_2 := Lib.hid (rdb_mono hX1 (show w1.heap.size + 1 ≤ _ by first | omega | (simp; done) | (simp; omega)))
      have lr_X1 := Lib.hid (rdb_lo r_X1_2.out)
      have hr_X1 := Lib.hid (rdb_hi r_X1_2.out)
      have ac_C0_2 := fun o => cell_b (c_C0_2) (below_alloc _ o)
      have bc_C0_2 := fun o o1 => cell_b (ac_C0_2 o) (below_alloc _ o1)
      have af_C0_2 := fun o => frz_b (cell_lt (c_C0_2)) (f_C0_2) (below_alloc _ o)
      have bf_C0_2 := fun o o1 => frz_b (cell_lt (ac_C0_2 o)) (af_C0_2 o) (below_alloc _ o1)
      clear hb r_c_1 T_1 hX0 hX1
      go_wp2_with fail
      (with_reducible refine (S_TellAll_q _  _ (xs)  (([] : List Int)) (([] : List Int)) (false) (0) (0) (rdb_rd (rdb_b (r_c_2.out) (below_alloc _ _))) (by first | omega | (simp; done) | (simp; omega)) rfl HQ1.out HQ2.out rfl rfl).mono ?_)
      rintro e w3 ⟨aY0, cY0, aY1, cY1, rfl, hY0, hY1, hb⟩
      have c_C0_3 := cell_b (cell_b (c_C0_2) (below_alloc _ _)) hb
      have f_C0_3 := frz_b (cell_lt (cell_b (c_C0_2) (below_alloc _ _))) (frz_b (cell_lt (c_C0_2)) (f_C0_2) (below_alloc _ _)) hb
      have c_X0_3 := cell_b (p := ⟨w2.heap.size, 0, none⟩) (v := .slice aX0 (0) cX0) (by simp) hb
      have r_c_3 := Lib.hid (rdb_b (rdb_b (r_c_2.out) (below_alloc _ _)) hb)
      have r_X0_3 := Lib.hid (rdb_b (rdb_b (r_X0_2.out) (below_alloc _ _)) hb)
      have r_X1_3 := Lib.hid (rdb_b (rdb_b (r_X1_2.out) (below_alloc _ _)) hb)
      have T_3 := Lib.hid (below_trans (below_trans (T_2.out) (below_alloc _ _)) hb)
      have z_3 : w2.heap.size + 1 ≤ w3.heap.size := (by have := hb.size; (try simp at this); omega)
      have r_Y0_3 := Lib.hid (rdb_mono hY0 (show w2.heap.size + 1 ≤ _ by first | omega | (simp; done) | (simp; omega)))
      have lr_Y0 := Lib.hid (rdb_lo r_Y0_3.out)
      have hr_Y0 := Lib.hid (rdb_hi r_Y0_3.out)
      have r_Y1_3 := Lib.hid (rdb_mono hY1 (show w2.heap.size + 1 ≤ _ by first | omega | (simp; done) | (simp; omega)))
      have lr_Y1 := Lib.hid (rdb_lo r_Y1_3.out)
      have hr_Y1 := Lib.hid (rdb_hi r_Y1_3.out)
      have ac_C0_3 := fun o => cell_b (c_C0_3) (below_alloc _ o)
      have bc_C0_3 := fun o o1 => cell_b (ac_C0_3 o) (below_alloc _ o1)
      have ac_X0_3 := fun o => cell_b (c_X0_3) (below_alloc _ o)
      have bc_X0_3 := fun o o1 => cell_b (ac_X0_3 o) (below_alloc _ o1)
      have af_C0_3 := fun o => frz_b (cell_lt (c_C0_3)) (f_C0_3) (below_alloc _ o)
      have bf_C0_3 := fun o o1 => frz_b (cell_lt (ac_C0_3 o)) (af_C0_3 o) (below_alloc _ o1)
      clear hb c_C0_2 f_C0_2 r_c_2 r_X0_2 r_X1_2 T_2 ac_C0_2 bc_C0_2 af_C0_2 bf_C0_2 hY0 hY1
      go_wp2_with fail
      (with_reducible refine (eqB_true (drew_b (L_wkInts _ _ _ (([] : List Int)) (([] : List Int)) (rdb_rd (rdb_b (r_X0_3.out) (below_alloc _ _))) (rdb_rd (rdb_b (r_Y0_3.out) (below_alloc _ _))) (by first | omega | (simp; done) | (simp; omega)) (by first | omega | (simp; done) | (simp; omega))))).mono ?_)
      rintro e w4 ⟨rfl, hb⟩
      have c_C0_4 := cell_b (cell_b (c_C0_3) (below_alloc _ _)) hb
      have c_X0_4 := cell_b (cell_b (c_X0_3) (below_alloc _ _)) hb
      have f_C0_4 := frz_b (cell_lt (cell_b (c_C0_3) (below_alloc _ _))) (frz_b (cell_lt (c_C0_3)) (f_C0_3) (below_alloc _ _)) hb
      have c_Y0_4 := cell_b (p := ⟨w3.heap.size, 0, none⟩) (v := .slice aY0 (0) cY0) (by simp) hb
      have r_c_4 := Lib.hid (rdb_b (rdb_b (r_c_3.out) (below_alloc _ _)) hb)
      have r_X0_4 := Lib.hid (rdb_b (rdb_b (r_X0_3.out) (below_alloc _ _)) hb)
      have r_X1_4 := Lib.hid (rdb_b (rdb_b (r_X1_3.out) (below_alloc _ _)) hb)
      have r_Y0_4 := Lib.hid (rdb_b (rdb_b (r_Y0_3.out) (below_alloc _ _)) hb)
      have r_Y1_4 := Lib.hid (rdb_b (rdb_b (r_Y1_3.out) (below_alloc _ _)) hb)
      have T_4 := Lib.hid (below_trans (below_trans (T_3.out) (below_alloc _ _)) hb)
      have z_4 : w3.heap.size + 1 ≤ w4.heap.size := (by have := hb.size; (try simp at this); omega)
      have ac_C0_4 := fun o => cell_b (c_C0_4) (below_alloc _ o)
      have bc_C0_4 := fun o o1 => cell_b (ac_C0_4 o) (below_alloc _ o1)
      have ac_X0_4 := fun o => cell_b (c_X0_4) (below_alloc _ o)
      have bc_X0_4 := fun o o1 => cell_b (ac_X0_4 o) (below_alloc _ o1)
      have ac_Y0_4 := fun o => cell_b (c_Y0_4) (below_alloc _ o)
      have bc_Y0_4 := fun o o1 => cell_b (ac_Y0_4 o) (below_alloc _ o1)
      have af_C0_4 := fun o => frz_b (cell_lt (c_C0_4)) (f_C0_4) (below_alloc _ o)
      have bf_C0_4 := fun o o1 => frz_b (cell_lt (ac_C0_4 o)) (af_C0_4 o) (below_alloc _ o1)
      clear hb c_C0_3 c_X0_3 f_C0_3 r_c_3 r_X0_3 r_X1_3 r_Y0_3 r_Y1_3 T_3 ac_C0_3 bc_C0_3 ac_X0_3 bc_X0_3 af_C0_3 bf_C0_3
      go_wp2_with fail
      (with_reducible refine (eqB_true (drew_b (L_wkInts _ _ _ (([] : List Int)) (([] : List Int)) (rdb_rd (r_X1_4.out)) (rdb_rd (r_Y1_4.out)) (by first | omega | (simp; done) | (simp; omega)) (by first | omega | (simp; done) | (simp; omega))))).mono ?_)
      rintro e w5 ⟨rfl, hb⟩
      have c_C0_5 := cell_b (c_C0_4) hb
      have c_X0_5 := cell_b (c_X0_4) hb
      have c_Y0_5 := cell_b (c_Y0_4) hb
      have f_C0_5 := frz_b (cell_lt (c_C0_4)) (f_C0_4) hb
      have r_c_5 := Lib.hid (rdb_b (r_c_4.out) hb)
      have r_X0_5 := Lib.hid (rdb_b (r_X0_4.out) hb)
      have r_X1_5 := Lib.hid (rdb_b (r_X1_4.out) hb)
      have r_Y0_5 := Lib.hid (rdb_b (r_Y0_4.out) hb)
      have r_Y1_5 := Lib.hid (rdb_b (r_Y1_4.out) hb)
      have T_5 := Lib.hid (below_trans (T_4.out) hb)
      have z_5 : w4.heap.size ≤ w5.heap.size := (by have := hb.size; (try simp at this); omega)
      have ac_C0_5 := fun o => cell_b (c_C0_5) (below_alloc _ o)
      have bc_C0_5 := fun o o1 => cell_b (ac_C0_5 o) (below_alloc _ o1)
      have ac_X0_5 := fun o => cell_b (c_X0_5) (below_alloc _ o)
      have bc_X0_5 := fun o o1 => cell_b (ac_X0_5 o) (below_alloc _ o1)
      have ac_Y0_5 := fun o => cell_b (c_Y0_5) (below_alloc _ o)
      have bc_Y0_5 := fun o o1 => cell_b (ac_Y0_5 o) (below_alloc _ o1)
      have af_C0_5 := fun o => frz_b (cell_lt (c_C0_5)) (f_C0_5) (below_alloc _ o)
      have bf_C0_5 := fun o o1 => frz_b (cell_lt (ac_C0_5 o)) (af_C0_5 o) (below_alloc _ o1)
      clear hb c_C0_4 c_X0_4 c_Y0_4 f_C0_4 r_c_4 r_X0_4 r_X1_4 r_Y0_4 r_Y1_4 T_4 ac_C0_4 bc_C0_4 ac_X0_4 bc_X0_4 ac_Y0_4 bc_Y0_4 af_C0_4 bf_C0_4
      go_wp2_with fail
      (with_reducible refine (eqB_true (drew_b (L_wkInts _ _ _ (([] : List Int)) (([] : List Int)) (rdb_rd (r_X0_5.out)) (rdb_rd (r_Y0_5.out)) (by first | omega | (simp; done) | (simp; omega)) (by first | omega | (simp; done) | (simp; omega))))).mono ?_)
      rintro e w6 ⟨rfl, hb⟩
      have c_C0_6 := cell_b (c_C0_5) hb
      have c_X0_6 := cell_b (c_X0_5) hb
      have c_Y0_6 := cell_b (c_Y0_5) hb
      have f_C0_6 := frz_b (cell_lt (c_C0_5)) (f_C0_5) hb
      have r_c_6 := Lib.hid (rdb_b (r_c_5.out) hb)
      have r_X0_6 := Lib.hid (rdb_b (r_X0_5.out) hb)
      have r_X1_6 := Lib.hid (rdb_b (r_X1_5.out) hb)
      have r_Y0_6 := Lib.hid (rdb_b (r_Y0_5.out) hb)
      have r_Y1_6 := Lib.hid (rdb_b (r_Y1_5.out) hb)
      have T_6 := Lib.hid (below_trans (T_5.out) hb)
      have z_6 : w5.heap.size ≤ w6.heap.size := (by have := hb.size; (try simp at this); omega)
      have ac_C0_6 := fun o => cell_b (c_C0_6) (below_alloc _ o)
      have bc_C0_6 := fun o o1 => cell_b (ac_C0_6 o) (below_alloc _ o1)
      have ac_X0_6 := fun o => cell_b (c_X0_6) (below_alloc _ o)
      have bc_X0_6 := fun o o1 => cell_b (ac_X0_6 o) (below_alloc _ o1)
      have ac_Y0_6 := fun o => cell_b (c_Y0_6) (below_alloc _ o)
      have bc_Y0_6 := fun o o1 => cell_b (ac_Y0_6 o) (below_alloc _ o1)
      have af_C0_6 := fun o => frz_b (cell_lt (c_C0_6)) (f_C0_6) (below_alloc _ o)
      have bf_C0_6 := fun o o1 => frz_b (cell_lt (ac_C0_6 o)) (af_C0_6 o) (below_alloc _ o1)
      clear hb c_C0_5 c_X0_5 c_Y0_5 f_C0_5 r_c_5 r_X0_5 r_X1_5 r_Y0_5 r_Y1_5 T_5 ac_C0_5 bc_C0_5 ac_X0_5 bc_X0_5 ac_Y0_5 bc_Y0_5 af_C0_5 bf_C0_5
      go_wp2_with fail
      (with_reducible refine (eqB_true (drew_b (L_wkInts _ _ _ (([] : List Int)) (([] : List Int)) (rdb_rd (r_X1_6.out)) (rdb_rd (r_Y1_6.out)) (by first | omega | (simp; done) | (simp; omega)) (by first | omega | (simp; done) | (simp; omega))))).mono ?_)
      rintro e w7 ⟨rfl, hb⟩
      have c_C0_7 := cell_b (c_C0_6) hb
      have c_X0_7 := cell_b (c_X0_6) hb
      have c_Y0_7 := cell_b (c_Y0_6) hb
      have f_C0_7 := frz_b (cell_lt (c_C0_6)) (f_C0_6) hb
      have r_c_7 := Lib.hid (rdb_b (r_c_6.out) hb)
      have r_X0_7 := Lib.hid (rdb_b (r_X0_6.out) hb)
      have r_X1_7 := Lib.hid (rdb_b (r_X1_6.out) hb)
      have r_Y0_7 := Lib.hid (rdb_b (r_Y0_6.out) hb)
      have r_Y1_7 := Lib.hid (rdb_b (r_Y1_6.out) hb)
      have T_7 := Lib.hid (below_trans (T_6.out) hb)
      have z_7 : w6.heap.size ≤ w7.heap.size := (by have := hb.size; (try simp at this); omega)
      have ac_C0_7 := fun o => cell_b (c_C0_7) (below_alloc _ o)
      have bc_C0_7 := fun o o1 => cell_b (ac_C0_7 o) (below_alloc _ o1)
      have ac_X0_7 := fun o => cell_b (c_X0_7) (below_alloc _ o)
      have bc_X0_7 := fun o o1 => cell_b (ac_X0_7 o) (below_alloc _ o1)
      have ac_Y0_7 := fun o => cell_b (c_Y0_7) (below_alloc _ o)
      have bc_Y0_7 := fun o o1 => cell_b (ac_Y0_7 o) (below_alloc _ o1)
      have af_C0_7 := fun o => frz_b (cell_lt (c_C0_7)) (f_C0_7) (below_alloc _ o)
      have bf_C0_7 := fun o o1 => frz_b (cell_lt (ac_C0_7 o)) (af_C0_7 o) (below_alloc _ o1)
      clear hb c_C0_6 c_X0_6 c_Y0_6 f_C0_6 r_c_6 r_X0_6 r_X1_6 r_Y0_6 r_Y1_6 T_6 ac_C0_6 bc_C0_6 ac_X0_6 bc_X0_6 ac_Y0_6 bc_Y0_6 af_C0_6 bf_C0_6
      go_wp2_with fail
      go_ret
      exact ⟨rfl, (T_7.out)⟩
end Go.Proofs.Ytkglngcopflgeaa
