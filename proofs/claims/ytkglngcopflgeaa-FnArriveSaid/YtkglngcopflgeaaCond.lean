/- Contracts of the functions over conditions. -/
import Derived.Test.YtkglngcopflgeaaLeaf
namespace Go.Proofs.Ytkglngcopflgeaa
open Go.RowKit

set_option maxHeartbeats 400000 in
theorem I_CondValid (w : World) (v : Value) (xs : List Int) (hr : Rd w v xs) (hl : xs.length ≤ 4294967296) :
    Calls Try.prog 18 #[.agg #[v]] w fun e w' => e = .returned (.bool (vt xs)) ∧ Below w.heap.size w w' := by
  have hr0 := Lib.hid hr
  obtain ⟨a, cap, rfl, hcap, hnc, hr⟩ := hr
  clear hr hnc
  by_cases h6 : xs.length ≤ 6
  · go_enter Try.func18, Try.ntmps18
    go_wp2_with (go_at_call 40; refine (I_distinctThreads _ _ xs (rd_alloc hr0.out _) hl).mono ?_; rintro e w' ⟨rfl, hb⟩)
    go_ret
    exact ⟨by rw [vt_dist h6]; rfl, (below_alloc _ _).trans (hb.mono (by simp))⟩
  · go_enter Try.func18, Try.ntmps18
    go_wp2
    go_ret
    exact ⟨by rw [vt_long (by omega)]; rfl, below_alloc _ _⟩

set_option maxHeartbeats 400000 in
theorem S_CondValid (w : World) (v : Value) (xs : List Int) (hr : Rd w v xs) (hl : xs.length ≤ 4294967296) :
    Calls Try.prog 19 #[.agg #[v]] w fun e w' => e = .returned (.bool (vt xs)) ∧ Below w.heap.size w w' := by
  have hr0 := Lib.hid hr
  obtain ⟨a, cap, rfl, hcap, hnc, hr⟩ := hr
  clear hr hnc
  go_enter Try.func19, Try.ntmps19
  go_wp2_with (go_at_call 41; refine (S_l2Waits _ _ xs (rd_alloc hr0.out _) hl).mono ?_; rintro e w' ⟨rfl, n, rfl⟩)
  go_ret
  exact ⟨rfl, (below_alloc _ _).trans ((drewN_below _ _).mono (by simp))⟩

set_option maxHeartbeats 1000000 in
theorem I_TellAll (w : World) (v : Value) (xs : List Int) (hr : Rd w v xs) (hl : xs.length ≤ 4294967296) :
    Calls Try.prog 22 #[.agg #[v]] w fun e w' => ∃ a cap b cap', e = .returned (.tuple #[.agg #[.slice a ([] : List Int).length cap], .slice b (okL (vt xs) xs).length cap', .bool (vt xs)]) ∧
      Ow w' w.heap.size (.slice a ([] : List Int).length cap) [] ∧ Ow w' w.heap.size (.slice b (okL (vt xs) xs).length cap') (okL (vt xs) xs) ∧ NE (.slice a ([] : List Int).length cap) (.slice b (okL (vt xs) xs).length cap') ∧ Below w.heap.size w w' := by
  obtain ⟨i0, hi, hz0, hz1, hz2⟩ := info_parts info3
  have HR := Lib.hid hr
  obtain ⟨a, cap, rfl, hcap, hnc, hr⟩ := hr
  by_cases hv : vt xs = true
  · have hl6 := vt_len hv
    rw [hv, okL_true]
    clear hr hnc
    go_enter Try.func22, Try.ntmps22
    have T0 := Lib.hid (Below.refl w.heap.size w)
    go_wp2_with fail
    refine (I_CondValid _ _ xs (rd_alloc (rd_alloc (rd_below HR.out T0.out) _) _) (by omega)).mono ?_
    rintro e w1 ⟨rfl, hb⟩
    have D1 : Below w.heap.size w w1 := below_trans (below_alloc _ _) (below_trans (below_alloc _ _) (hb))
    have T1 := Lib.hid (below_trans T0.out D1)
    have z1 : w.heap.size + 2 ≤ w1.heap.size := (by have := hb.size; (try simp at this); omega)
    have c_A0_1 := cell_b (p := ⟨w.heap.size, 0, none⟩) (v := .slice a xs.length cap) (by simp) hb
    have c_R0_1 := cell_b (p := ⟨w.heap.size + 1, 0, none⟩) (v := .slice none 0 0) (by simp) hb
    have f_R0_1 : w1.frozen? ⟨w.heap.size + 1, 0, none⟩ = false := (hb.frozen (p := ⟨w.heap.size + 1, 0, none⟩) (by simp; try omega)).trans (by simp)
    have ac_A0_1 := fun o => cell_b c_A0_1 (below_alloc _ o)
    have bc_A0_1 := fun o o1 => cell_b (ac_A0_1 o) (below_alloc _ o1)
    have ac_R0_1 := fun o => cell_b c_R0_1 (below_alloc _ o)
    have bc_R0_1 := fun o o1 => cell_b (ac_R0_1 o) (below_alloc _ o1)
    have af_R0_1 := fun o => frz_b (cell_lt c_R0_1) f_R0_1 (below_alloc _ o)
    have bf_R0_1 := fun o o1 => frz_b (cell_lt (ac_R0_1 o)) (af_R0_1 o) (below_alloc _ o1)
    clear hb D1 T0
    go_wp2_with fail
    refine (I_cloneInts _ _ xs (rd_below HR.out T1.out) (by omega)).mono ?_
    rintro e w2 ⟨a2, cap2, rfl, hd, hb⟩
    have D2 : Below w1.heap.size w1 w2 := hb
    have c_A0_2 := cell_b c_A0_1 D2
    have c_R0_2 := cell_b c_R0_1 D2
    have f_R0_2 := (D2.frozen (p := ⟨w.heap.size + 1, 0, none⟩) (World.block_lt_of_cell? _ _ c_R0_1)).trans f_R0_1
    have T2 := Lib.hid (below_trans T1.out D2)
    have z2 : w1.heap.size ≤ w2.heap.size := (by have := hb.size; (try simp at this); omega)
    have o_d_2 := Lib.hid (own_base hd (show w1.heap.size ≤ _ by simp; try omega))
    have lo_d := Lib.hid (own_lo o_d_2.out)
    have hi_d := Lib.hid (own_hi o_d_2.out)
    have ac_A0_2 := fun o => cell_b c_A0_2 (below_alloc _ o)
    have bc_A0_2 := fun o o1 => cell_b (ac_A0_2 o) (below_alloc _ o1)
    have ac_R0_2 := fun o => cell_b c_R0_2 (below_alloc _ o)
    have bc_R0_2 := fun o o1 => cell_b (ac_R0_2 o) (below_alloc _ o1)
    have af_R0_2 := fun o => frz_b (cell_lt c_R0_2) f_R0_2 (below_alloc _ o)
    have bf_R0_2 := fun o o1 => frz_b (cell_lt (ac_R0_2 o)) (af_R0_2 o) (below_alloc _ o1)
    clear ac_A0_1 bc_A0_1 ac_R0_1 bc_R0_1 af_R0_1 bf_R0_1 c_A0_1 c_R0_1 f_R0_1 hb D2 hd T1
    go_wp2_with fail
    refine bodyPost_ret (v := .tuple #[.agg #[.slice none 0 0], .slice a2 xs.length cap2, .bool true]) (by simp [results, Try.results22, go_sem, c_R0_2]) rfl ⟨_, _, _, _, rfl, ow_nil _ _, ?_, ne_nil _ _ _, T2.out.setCell (by simp) _⟩
    exact own_base (ownsRow_setCell_below o_d_2.out (by show _ + 1 < _; omega) _) (by omega)
  · have hv' : vt xs = false := by simpa using hv
    clear hv
    rw [hv', okL_false]
    clear hr hnc
    go_enter Try.func22, Try.ntmps22
    have T0 := Lib.hid (Below.refl w.heap.size w)
    go_wp2_with fail
    refine (I_CondValid _ _ xs (rd_alloc (rd_alloc (rd_below HR.out T0.out) _) _) (by omega)).mono ?_
    rintro e w1 ⟨rfl, hb⟩
    have D1 : Below w.heap.size w w1 := below_trans (below_alloc _ _) (below_trans (below_alloc _ _) (hb))
    have T1 := Lib.hid (below_trans T0.out D1)
    have z1 : w.heap.size + 2 ≤ w1.heap.size := (by have := hb.size; (try simp at this); omega)
    have c_A0_1 := cell_b (p := ⟨w.heap.size, 0, none⟩) (v := .slice a xs.length cap) (by simp) hb
    have c_R0_1 := cell_b (p := ⟨w.heap.size + 1, 0, none⟩) (v := .slice none 0 0) (by simp) hb
    have f_R0_1 : w1.frozen? ⟨w.heap.size + 1, 0, none⟩ = false := (hb.frozen (p := ⟨w.heap.size + 1, 0, none⟩) (by simp; try omega)).trans (by simp)
    have ac_A0_1 := fun o => cell_b c_A0_1 (below_alloc _ o)
    have bc_A0_1 := fun o o1 => cell_b (ac_A0_1 o) (below_alloc _ o1)
    have ac_R0_1 := fun o => cell_b c_R0_1 (below_alloc _ o)
    have bc_R0_1 := fun o o1 => cell_b (ac_R0_1 o) (below_alloc _ o1)
    have af_R0_1 := fun o => frz_b (cell_lt c_R0_1) f_R0_1 (below_alloc _ o)
    have bf_R0_1 := fun o o1 => frz_b (cell_lt (ac_R0_1 o)) (af_R0_1 o) (below_alloc _ o1)
    clear hb D1 T0
    go_wp2_with fail
    refine bodyPost_ret (v := .tuple #[.agg #[.slice none 0 0], .slice none 0 0, .bool false]) (by simp [results, Try.results22, go_sem, c_R0_1]) rfl ⟨_, _, _, _, rfl, ow_nil _ _, ow_nil _ _, ne_nil _ _ _, T1.out.setCell (by simp) _⟩

set_option maxHeartbeats 1000000 in
theorem S_TellAll (w : World) (v : Value) (xs : List Int) (hr : Rd w v xs) (hl : xs.length ≤ 4294967296) :
    Calls Try.prog 23 #[.agg #[v]] w fun e w' => ∃ a cap b cap', e = .returned (.tuple #[.agg #[.slice a ([] : List Int).length cap], .slice b (okL (vt xs) xs).length cap', .bool (vt xs)]) ∧
      Ow w' w.heap.size (.slice a ([] : List Int).length cap) [] ∧ Ow w' w.heap.size (.slice b (okL (vt xs) xs).length cap') (okL (vt xs) xs) ∧ NE (.slice a ([] : List Int).length cap) (.slice b (okL (vt xs) xs).length cap') ∧ Below w.heap.size w w' := by
  obtain ⟨i0, hi, hz0, hz1, hz2⟩ := info_parts info3
  have HR := Lib.hid hr
  obtain ⟨a, cap, rfl, hcap, hnc, hr⟩ := hr
  by_cases hv : vt xs = true
  · have hl6 := vt_len hv
    rw [hv, okL_true]
    clear hr hnc
    go_enter Try.func23, Try.ntmps23
    have T0 := Lib.hid (Below.refl w.heap.size w)
    go_wp2_with fail
    refine (S_CondValid _ _ xs (rd_alloc (rd_alloc (rd_below HR.out T0.out) _) _) (by omega)).mono ?_
    rintro e w1 ⟨rfl, hb⟩
    have D1 : Below w.heap.size w w1 := below_trans (below_alloc _ _) (below_trans (below_alloc _ _) (hb))
    have T1 := Lib.hid (below_trans T0.out D1)
    have z1 : w.heap.size + 2 ≤ w1.heap.size := (by have := hb.size; (try simp at this); omega)
    have c_A0_1 := cell_b (p := ⟨w.heap.size, 0, none⟩) (v := .slice a xs.length cap) (by simp) hb
    have c_R0_1 := cell_b (p := ⟨w.heap.size + 1, 0, none⟩) (v := .slice none 0 0) (by simp) hb
    have f_R0_1 : w1.frozen? ⟨w.heap.size + 1, 0, none⟩ = false := (hb.frozen (p := ⟨w.heap.size + 1, 0, none⟩) (by simp; try omega)).trans (by simp)
    have ac_A0_1 := fun o => cell_b c_A0_1 (below_alloc _ o)
    have bc_A0_1 := fun o o1 => cell_b (ac_A0_1 o) (below_alloc _ o1)
    have ac_R0_1 := fun o => cell_b c_R0_1 (below_alloc _ o)
    have bc_R0_1 := fun o o1 => cell_b (ac_R0_1 o) (below_alloc _ o1)
    have af_R0_1 := fun o => frz_b (cell_lt c_R0_1) f_R0_1 (below_alloc _ o)
    have bf_R0_1 := fun o o1 => frz_b (cell_lt (ac_R0_1 o)) (af_R0_1 o) (below_alloc _ o1)
    clear hb D1 T0
    have tok2 : True := trivial
    go_wp2_with (first | (at_builtin; have _t := tok2; refine wpList_append_rd rfl _ _ 24 rfl (w1.heap.size) i0 Try.underlying24 hi hz0 hz1 hz2 (.slice (some ⟨w1.heap.size, 0, none⟩) 0 0) (0) ([]) rfl (World.ownsRow_made _ #[] 0 (by simp) (by unfold maxLen; omega) rfl) _ _ _ (xs) rfl (rd_alloc (rd_below HR.out T1.out) _) rfl (by unfold maxLen; omega) (by omega) (by simp; try omega) ?_; intro v2 w2 hown hgrow; clear tok2; have ho : w2.ownsRow (w1.heap.size) 3 1 v2 ((xs).length) (ints (xs)) := (by rw [Nat.zero_add, List.nil_append] at hown; exact hown); obtain ⟨a2, cap2, hv⟩ := own_shape ho; subst hv; have c_A0_2 := cell_gr (cell_b c_A0_1 (below_alloc _ _)) hgrow (fun g h => by simp only [Value.ownBlock, Option.some.injEq] at h; show w.heap.size ≠ g; omega); have c_R0_2 := cell_gr (cell_b c_R0_1 (below_alloc _ _)) hgrow (fun g h => by simp only [Value.ownBlock, Option.some.injEq] at h; show w.heap.size + 1 ≠ g; omega); have f_R0_2 := (frz_gr (p := ⟨w.heap.size + 1, 0, none⟩) (cell_lt (cell_b c_R0_1 (below_alloc _ _))) hgrow (fun g h => by simp only [Value.ownBlock, Option.some.injEq] at h; show w.heap.size + 1 ≠ g; omega)).trans (frz_b (cell_lt c_R0_1) f_R0_1 (below_alloc _ _)); have z2 : w1.heap.size + 1 ≤ w2.heap.size := (by have := hgrow.size; (try simp at this); omega); have T2 := Lib.hid (below_gr (T1.out.trans ((below_alloc _ _ : Below w1.heap.size w1 _).mono T1.out.size)) (by have := T1.out.size; simp; try omega) hgrow (fun g h => by have h9 := T1.out.size; simp only [Value.ownBlock, Option.some.injEq] at h; omega)); have o_d_2 := Lib.hid ho; have lo_d := Lib.hid (own_lo o_d_2.out); have hi_d := Lib.hid (own_hi o_d_2.out); have ac_A0_2 := fun o => cell_b c_A0_2 (below_alloc _ o); have bc_A0_2 := fun o o1 => cell_b (ac_A0_2 o) (below_alloc _ o1); have ac_R0_2 := fun o => cell_b c_R0_2 (below_alloc _ o); have bc_R0_2 := fun o o1 => cell_b (ac_R0_2 o) (below_alloc _ o1); have af_R0_2 := fun o => frz_b (cell_lt c_R0_2) f_R0_2 (below_alloc _ o); have bf_R0_2 := fun o o1 => frz_b (cell_lt (ac_R0_2 o)) (af_R0_2 o) (below_alloc _ o1); clear hown hgrow ho T1 ac_A0_1 bc_A0_1 ac_R0_1 bc_R0_1 af_R0_1 bf_R0_1 c_A0_1 c_R0_1 f_R0_1))
    refine bodyPost_ret (v := .tuple #[.agg #[.slice none 0 0], .slice a2 xs.length cap2, .bool true]) (by simp [results, Try.results23, go_sem, c_R0_2]) rfl ⟨_, _, _, _, rfl, ow_nil _ _, ?_, ne_nil _ _ _, T2.out.setCell (by simp) _⟩
    exact own_base (ownsRow_setCell_below o_d_2.out (by show _ + 1 < _; omega) _) (by omega)
  · have hv' : vt xs = false := by simpa using hv
    clear hv
    rw [hv', okL_false]
    clear hr hnc
    go_enter Try.func23, Try.ntmps23
    have T0 := Lib.hid (Below.refl w.heap.size w)
    go_wp2_with fail
    refine (S_CondValid _ _ xs (rd_alloc (rd_alloc (rd_below HR.out T0.out) _) _) (by omega)).mono ?_
    rintro e w1 ⟨rfl, hb⟩
    have D1 : Below w.heap.size w w1 := below_trans (below_alloc _ _) (below_trans (below_alloc _ _) (hb))
    have T1 := Lib.hid (below_trans T0.out D1)
    have z1 : w.heap.size + 2 ≤ w1.heap.size := (by have := hb.size; (try simp at this); omega)
    have c_A0_1 := cell_b (p := ⟨w.heap.size, 0, none⟩) (v := .slice a xs.length cap) (by simp) hb
    have c_R0_1 := cell_b (p := ⟨w.heap.size + 1, 0, none⟩) (v := .slice none 0 0) (by simp) hb
    have f_R0_1 : w1.frozen? ⟨w.heap.size + 1, 0, none⟩ = false := (hb.frozen (p := ⟨w.heap.size + 1, 0, none⟩) (by simp; try omega)).trans (by simp)
    have ac_A0_1 := fun o => cell_b c_A0_1 (below_alloc _ o)
    have bc_A0_1 := fun o o1 => cell_b (ac_A0_1 o) (below_alloc _ o1)
    have ac_R0_1 := fun o => cell_b c_R0_1 (below_alloc _ o)
    have bc_R0_1 := fun o o1 => cell_b (ac_R0_1 o) (below_alloc _ o1)
    have af_R0_1 := fun o => frz_b (cell_lt c_R0_1) f_R0_1 (below_alloc _ o)
    have bf_R0_1 := fun o o1 => frz_b (cell_lt (ac_R0_1 o)) (af_R0_1 o) (below_alloc _ o1)
    clear hb D1 T0
    go_wp2_with fail
    refine bodyPost_ret (v := .tuple #[.agg #[.slice none 0 0], .slice (some ⟨w1.heap.size, 0, none⟩) 0 0, .bool false]) (by simp [results, Try.results23, go_sem, ac_R0_1]) rfl ⟨_, _, _, _, rfl, ow_nil _ _, ?_, ne_nil _ _ _, (T1.out.alloc T1.out.size _).setCell (by simp) _⟩
    exact own_base (ownsRow_setCell_below (ow_made w1 _ (Nat.le_refl _)) (by show _ + 1 < _; omega) _) (by omega)

set_option maxHeartbeats 1000000 in
theorem I_WaitCond (w : World) (v : Value) (xs : List Int) (t : Int) (hr : Rd w v xs) (hl : xs.length ≤ 4294967296) :
    Calls Try.prog 20 #[.agg #[v], .int .i64 t] w fun e w' => ∃ a cap, e = .returned (.tuple #[.agg #[.slice a (waitL xs t).length cap], .bool (waitOk xs t)]) ∧
      Ow w' w.heap.size (.slice a (waitL xs t).length cap) (waitL xs t) ∧ Below w.heap.size w w' := by
  obtain ⟨i0, hi, hz0, hz1, hz2⟩ := info_parts info3
  have HR := Lib.hid hr
  obtain ⟨a, cap, rfl, hcap, hnc, hr⟩ := hr
  by_cases hv : vt xs = true
  · by_cases ht : thr t = true
    · by_cases hh : hasB xs t = true
      · have hok : waitOk xs t = false := by simp [waitOk, hh]
        have hL : waitL xs t = [] := by simp [waitL, hok]
        have hat := hasB_at xs t
        rw [hh] at hat
        rw [hok, hL]
        clear hok hL
        clear hr hnc
        go_enter Try.func20, Try.ntmps20
        have T0 := Lib.hid (Below.refl w.heap.size w)
        go_wp2_with fail
        refine (I_CondValid _ _ xs (rd_alloc (rd_alloc (rd_below HR.out T0.out) _) _) (by omega)).mono ?_
        rintro e w1 ⟨rfl, hb⟩
        have D1 : Below w.heap.size w w1 := below_trans (below_alloc _ _) (below_trans (below_alloc _ _) (hb))
        have T1 := Lib.hid (below_trans T0.out D1)
        have z1 : w.heap.size + 2 ≤ w1.heap.size := (by have := hb.size; (try simp at this); omega)
        have c_A0_1 := cell_b (p := ⟨w.heap.size, 0, none⟩) (v := .slice a xs.length cap) (by simp) hb
        have c_R0_1 := cell_b (p := ⟨w.heap.size + 1, 0, none⟩) (v := .slice none 0 0) (by simp) hb
        have f_R0_1 : w1.frozen? ⟨w.heap.size + 1, 0, none⟩ = false := (hb.frozen (p := ⟨w.heap.size + 1, 0, none⟩) (by simp; try omega)).trans (by simp)
        have ac_A0_1 := fun o => cell_b c_A0_1 (below_alloc _ o)
        have bc_A0_1 := fun o o1 => cell_b (ac_A0_1 o) (below_alloc _ o1)
        have ac_R0_1 := fun o => cell_b c_R0_1 (below_alloc _ o)
        have bc_R0_1 := fun o o1 => cell_b (ac_R0_1 o) (below_alloc _ o1)
        have af_R0_1 := fun o => frz_b (cell_lt c_R0_1) f_R0_1 (below_alloc _ o)
        have bf_R0_1 := fun o o1 => frz_b (cell_lt (ac_R0_1 o)) (af_R0_1 o) (below_alloc _ o1)
        clear hb D1 T0
        go_wp2_with fail
        refine (same_b (I_isThread _ t)).mono ?_
        rintro e w2 ⟨rfl, hb⟩
        have D2 : Below w1.heap.size w1 w2 := hb
        have c_A0_2 := cell_b c_A0_1 D2
        have c_R0_2 := cell_b c_R0_1 D2
        have f_R0_2 := (D2.frozen (p := ⟨w.heap.size + 1, 0, none⟩) (World.block_lt_of_cell? _ _ c_R0_1)).trans f_R0_1
        have T2 := Lib.hid (below_trans T1.out D2)
        have z2 : w1.heap.size ≤ w2.heap.size := (by have := hb.size; (try simp at this); omega)
        have ac_A0_2 := fun o => cell_b c_A0_2 (below_alloc _ o)
        have bc_A0_2 := fun o o1 => cell_b (ac_A0_2 o) (below_alloc _ o1)
        have ac_R0_2 := fun o => cell_b c_R0_2 (below_alloc _ o)
        have bc_R0_2 := fun o o1 => cell_b (ac_R0_2 o) (below_alloc _ o1)
        have af_R0_2 := fun o => frz_b (cell_lt c_R0_2) f_R0_2 (below_alloc _ o)
        have bf_R0_2 := fun o o1 => frz_b (cell_lt (ac_R0_2 o)) (af_R0_2 o) (below_alloc _ o1)
        clear ac_A0_1 bc_A0_1 ac_R0_1 bc_R0_1 af_R0_1 bf_R0_1 c_A0_1 c_R0_1 f_R0_1 hb D2 T1
        go_wp2_with fail
        refine (same_b (slices_Contains _ _ xs t (rd_below HR.out T2.out) (by omega))).mono ?_
        rintro e w3 ⟨rfl, hb⟩
        have D3 : Below w2.heap.size w2 w3 := hb
        have c_A0_3 := cell_b c_A0_2 D3
        have c_R0_3 := cell_b c_R0_2 D3
        have f_R0_3 := (D3.frozen (p := ⟨w.heap.size + 1, 0, none⟩) (World.block_lt_of_cell? _ _ c_R0_2)).trans f_R0_2
        have T3 := Lib.hid (below_trans T2.out D3)
        have z3 : w2.heap.size ≤ w3.heap.size := (by have := hb.size; (try simp at this); omega)
        have ac_A0_3 := fun o => cell_b c_A0_3 (below_alloc _ o)
        have bc_A0_3 := fun o o1 => cell_b (ac_A0_3 o) (below_alloc _ o1)
        have ac_R0_3 := fun o => cell_b c_R0_3 (below_alloc _ o)
        have bc_R0_3 := fun o o1 => cell_b (ac_R0_3 o) (below_alloc _ o1)
        have af_R0_3 := fun o => frz_b (cell_lt c_R0_3) f_R0_3 (below_alloc _ o)
        have bf_R0_3 := fun o o1 => frz_b (cell_lt (ac_R0_3 o)) (af_R0_3 o) (below_alloc _ o1)
        clear ac_A0_2 bc_A0_2 ac_R0_2 bc_R0_2 af_R0_2 bf_R0_2 c_A0_2 c_R0_2 f_R0_2 hb D3 T2
        go_wp2_with fail
        refine bodyPost_ret (v := .tuple #[.agg #[.slice none 0 0], .bool false]) (by simp [results, Try.results20, go_sem, c_R0_3]) rfl ⟨_, _, rfl, ow_nil _ _, T3.out.setCell (by simp) _⟩
      · have hh' : hasB xs t = false := by simpa using hh
        have hok : waitOk xs t = true := by simp [waitOk, hv, ht, hh']
        have hL : waitL xs t = xs ++ [t] := by simp [waitL, hok]
        have hl6 := vt_len hv
        have hat := hasB_at xs t
        rw [hh'] at hat
        rw [hok, hL, List.length_append]
        clear hok hL hh
        clear hr hnc
        go_enter Try.func20, Try.ntmps20
        have T0 := Lib.hid (Below.refl w.heap.size w)
        go_wp2_with fail
        refine (I_CondValid _ _ xs (rd_alloc (rd_alloc (rd_below HR.out T0.out) _) _) (by omega)).mono ?_
        rintro e w1 ⟨rfl, hb⟩
        have D1 : Below w.heap.size w w1 := below_trans (below_alloc _ _) (below_trans (below_alloc _ _) (hb))
        have T1 := Lib.hid (below_trans T0.out D1)
        have z1 : w.heap.size + 2 ≤ w1.heap.size := (by have := hb.size; (try simp at this); omega)
        have c_A0_1 := cell_b (p := ⟨w.heap.size, 0, none⟩) (v := .slice a xs.length cap) (by simp) hb
        have c_R0_1 := cell_b (p := ⟨w.heap.size + 1, 0, none⟩) (v := .slice none 0 0) (by simp) hb
        have f_R0_1 : w1.frozen? ⟨w.heap.size + 1, 0, none⟩ = false := (hb.frozen (p := ⟨w.heap.size + 1, 0, none⟩) (by simp; try omega)).trans (by simp)
        have ac_A0_1 := fun o => cell_b c_A0_1 (below_alloc _ o)
        have bc_A0_1 := fun o o1 => cell_b (ac_A0_1 o) (below_alloc _ o1)
        have ac_R0_1 := fun o => cell_b c_R0_1 (below_alloc _ o)
        have bc_R0_1 := fun o o1 => cell_b (ac_R0_1 o) (below_alloc _ o1)
        have af_R0_1 := fun o => frz_b (cell_lt c_R0_1) f_R0_1 (below_alloc _ o)
        have bf_R0_1 := fun o o1 => frz_b (cell_lt (ac_R0_1 o)) (af_R0_1 o) (below_alloc _ o1)
        clear hb D1 T0
        go_wp2_with fail
        refine (same_b (I_isThread _ t)).mono ?_
        rintro e w2 ⟨rfl, hb⟩
        have D2 : Below w1.heap.size w1 w2 := hb
        have c_A0_2 := cell_b c_A0_1 D2
        have c_R0_2 := cell_b c_R0_1 D2
        have f_R0_2 := (D2.frozen (p := ⟨w.heap.size + 1, 0, none⟩) (World.block_lt_of_cell? _ _ c_R0_1)).trans f_R0_1
        have T2 := Lib.hid (below_trans T1.out D2)
        have z2 : w1.heap.size ≤ w2.heap.size := (by have := hb.size; (try simp at this); omega)
        have ac_A0_2 := fun o => cell_b c_A0_2 (below_alloc _ o)
        have bc_A0_2 := fun o o1 => cell_b (ac_A0_2 o) (below_alloc _ o1)
        have ac_R0_2 := fun o => cell_b c_R0_2 (below_alloc _ o)
        have bc_R0_2 := fun o o1 => cell_b (ac_R0_2 o) (below_alloc _ o1)
        have af_R0_2 := fun o => frz_b (cell_lt c_R0_2) f_R0_2 (below_alloc _ o)
        have bf_R0_2 := fun o o1 => frz_b (cell_lt (ac_R0_2 o)) (af_R0_2 o) (below_alloc _ o1)
        clear ac_A0_1 bc_A0_1 ac_R0_1 bc_R0_1 af_R0_1 bf_R0_1 c_A0_1 c_R0_1 f_R0_1 hb D2 T1
        go_wp2_with fail
        refine (same_b (slices_Contains _ _ xs t (rd_below HR.out T2.out) (by omega))).mono ?_
        rintro e w3 ⟨rfl, hb⟩
        have D3 : Below w2.heap.size w2 w3 := hb
        have c_A0_3 := cell_b c_A0_2 D3
        have c_R0_3 := cell_b c_R0_2 D3
        have f_R0_3 := (D3.frozen (p := ⟨w.heap.size + 1, 0, none⟩) (World.block_lt_of_cell? _ _ c_R0_2)).trans f_R0_2
        have T3 := Lib.hid (below_trans T2.out D3)
        have z3 : w2.heap.size ≤ w3.heap.size := (by have := hb.size; (try simp at this); omega)
        have ac_A0_3 := fun o => cell_b c_A0_3 (below_alloc _ o)
        have bc_A0_3 := fun o o1 => cell_b (ac_A0_3 o) (below_alloc _ o1)
        have ac_R0_3 := fun o => cell_b c_R0_3 (below_alloc _ o)
        have bc_R0_3 := fun o o1 => cell_b (ac_R0_3 o) (below_alloc _ o1)
        have af_R0_3 := fun o => frz_b (cell_lt c_R0_3) f_R0_3 (below_alloc _ o)
        have bf_R0_3 := fun o o1 => frz_b (cell_lt (ac_R0_3 o)) (af_R0_3 o) (below_alloc _ o1)
        clear ac_A0_2 bc_A0_2 ac_R0_2 bc_R0_2 af_R0_2 bf_R0_2 c_A0_2 c_R0_2 f_R0_2 hb D3 T2
        go_wp2_with fail
        refine (I_cloneInts _ _ xs (rd_below HR.out T3.out) (by omega)).mono ?_
        rintro e w4 ⟨a4, cap4, rfl, hd, hb⟩
        have D4 : Below w3.heap.size w3 w4 := hb
        have c_A0_4 := cell_b c_A0_3 D4
        have c_R0_4 := cell_b c_R0_3 D4
        have f_R0_4 := (D4.frozen (p := ⟨w.heap.size + 1, 0, none⟩) (World.block_lt_of_cell? _ _ c_R0_3)).trans f_R0_3
        have T4 := Lib.hid (below_trans T3.out D4)
        have z4 : w3.heap.size ≤ w4.heap.size := (by have := hb.size; (try simp at this); omega)
        have o_d_4 := Lib.hid (own_base hd (show w3.heap.size ≤ _ by simp; try omega))
        have lo_d := Lib.hid (own_lo o_d_4.out)
        have hi_d := Lib.hid (own_hi o_d_4.out)
        have ac_A0_4 := fun o => cell_b c_A0_4 (below_alloc _ o)
        have bc_A0_4 := fun o o1 => cell_b (ac_A0_4 o) (below_alloc _ o1)
        have ac_R0_4 := fun o => cell_b c_R0_4 (below_alloc _ o)
        have bc_R0_4 := fun o o1 => cell_b (ac_R0_4 o) (below_alloc _ o1)
        have af_R0_4 := fun o => frz_b (cell_lt c_R0_4) f_R0_4 (below_alloc _ o)
        have bf_R0_4 := fun o o1 => frz_b (cell_lt (ac_R0_4 o)) (af_R0_4 o) (below_alloc _ o1)
        clear ac_A0_3 bc_A0_3 ac_R0_3 bc_R0_3 af_R0_3 bf_R0_3 c_A0_3 c_R0_3 f_R0_3 hb D4 hd T3
        have tok5 : True := trivial
        go_wp2_with (first | (at_builtin; have _t := tok5; refine wpList_append_own _ rfl _ _ 24 rfl (w3.heap.size) 3 i0 (.int .i64 0) 1 8 Try.underlying24 hi hz0 hz1 hz2 rfl (by decide) (.slice a4 xs.length cap4) (xs.length) (ints (xs)) rfl (own_below (o_d_4.out) (below_alloc _ _)) ⟨w4.heap.size, 0, none⟩ 1 1 [.int .i64 (t)] rfl rfl (cell_one_new _ _ _) (ints_oneCell .i64 [t]) (by unfold maxLen; omega) (by omega) (by simp; try omega) ?_; intro v5 w5 hown hgrow _; clear tok5; have ho : w5.ownsRow (w3.heap.size) 3 1 v5 (xs.length + 1) (ints (xs ++ [t])) := (by rw [ints_append]; exact hown); obtain ⟨a5, cap5, hv⟩ := own_shape ho; subst hv; have c_A0_5 := cell_gr (cell_b c_A0_4 (below_alloc _ _)) hgrow (fun g h => by have h1 := lo_d.out g h; have h2 := hi_d.out g h; show w.heap.size ≠ g; omega); have c_R0_5 := cell_gr (cell_b c_R0_4 (below_alloc _ _)) hgrow (fun g h => by have h1 := lo_d.out g h; have h2 := hi_d.out g h; show w.heap.size + 1 ≠ g; omega); have f_R0_5 := (frz_gr (p := ⟨w.heap.size + 1, 0, none⟩) (cell_lt (cell_b c_R0_4 (below_alloc _ _))) hgrow (fun g h => by have h1 := lo_d.out g h; have h2 := hi_d.out g h; show w.heap.size + 1 ≠ g; omega)).trans (frz_b (cell_lt c_R0_4) f_R0_4 (below_alloc _ _)); have z5 : w4.heap.size + 1 ≤ w5.heap.size := (by have := hgrow.size; (try simp at this); omega); have T5 := Lib.hid (below_gr (T4.out.trans ((below_alloc _ _ : Below w4.heap.size w4 _).mono T4.out.size)) (by have := T4.out.size; simp; try omega) hgrow (fun g h => by have h9 := T4.out.size; have h1 := lo_d.out g h; have h2 := hi_d.out g h; omega)); have o_e_5 := Lib.hid ho; have lo_e := Lib.hid (own_lo o_e_5.out); have hi_e := Lib.hid (own_hi o_e_5.out); have ac_A0_5 := fun o => cell_b c_A0_5 (below_alloc _ o); have bc_A0_5 := fun o o1 => cell_b (ac_A0_5 o) (below_alloc _ o1); have ac_R0_5 := fun o => cell_b c_R0_5 (below_alloc _ o); have bc_R0_5 := fun o o1 => cell_b (ac_R0_5 o) (below_alloc _ o1); have af_R0_5 := fun o => frz_b (cell_lt c_R0_5) f_R0_5 (below_alloc _ o); have bf_R0_5 := fun o o1 => frz_b (cell_lt (ac_R0_5 o)) (af_R0_5 o) (below_alloc _ o1); clear hown hgrow ho T4 ac_A0_4 bc_A0_4 ac_R0_4 bc_R0_4 af_R0_4 bf_R0_4 c_A0_4 c_R0_4 f_R0_4 o_d_4))
        refine bodyPost_ret (v := .tuple #[.agg #[.slice a5 (xs.length + 1) cap5], .bool true]) (by simp [results, Try.results20, go_sem, c_R0_5]) rfl ⟨a5, cap5, rfl, ?_, T5.out.setCell (by simp) _⟩
        refine own_base (b := w3.heap.size) (ownsRow_setCell_below ?_ (by show _ + 1 < _; omega) _) (by omega)
        have := o_e_5.out; rwa [show (xs ++ [t]).length = xs.length + 1 by simp]
    · have ht' : thr t = false := by simpa using ht
      have hok : waitOk xs t = false := by simp [waitOk, ht']
      have hL : waitL xs t = [] := by simp [waitL, hok]
      rw [hok, hL]
      clear hok hL ht
      clear hr hnc
      go_enter Try.func20, Try.ntmps20
      have T0 := Lib.hid (Below.refl w.heap.size w)
      go_wp2_with fail
      refine (I_CondValid _ _ xs (rd_alloc (rd_alloc (rd_below HR.out T0.out) _) _) (by omega)).mono ?_
      rintro e w1 ⟨rfl, hb⟩
      have D1 : Below w.heap.size w w1 := below_trans (below_alloc _ _) (below_trans (below_alloc _ _) (hb))
      have T1 := Lib.hid (below_trans T0.out D1)
      have z1 : w.heap.size + 2 ≤ w1.heap.size := (by have := hb.size; (try simp at this); omega)
      have c_A0_1 := cell_b (p := ⟨w.heap.size, 0, none⟩) (v := .slice a xs.length cap) (by simp) hb
      have c_R0_1 := cell_b (p := ⟨w.heap.size + 1, 0, none⟩) (v := .slice none 0 0) (by simp) hb
      have f_R0_1 : w1.frozen? ⟨w.heap.size + 1, 0, none⟩ = false := (hb.frozen (p := ⟨w.heap.size + 1, 0, none⟩) (by simp; try omega)).trans (by simp)
      have ac_A0_1 := fun o => cell_b c_A0_1 (below_alloc _ o)
      have bc_A0_1 := fun o o1 => cell_b (ac_A0_1 o) (below_alloc _ o1)
      have ac_R0_1 := fun o => cell_b c_R0_1 (below_alloc _ o)
      have bc_R0_1 := fun o o1 => cell_b (ac_R0_1 o) (below_alloc _ o1)
      have af_R0_1 := fun o => frz_b (cell_lt c_R0_1) f_R0_1 (below_alloc _ o)
      have bf_R0_1 := fun o o1 => frz_b (cell_lt (ac_R0_1 o)) (af_R0_1 o) (below_alloc _ o1)
      clear hb D1 T0
      go_wp2_with fail
      refine (same_b (I_isThread _ t)).mono ?_
      rintro e w2 ⟨rfl, hb⟩
      have D2 : Below w1.heap.size w1 w2 := hb
      have c_A0_2 := cell_b c_A0_1 D2
      have c_R0_2 := cell_b c_R0_1 D2
      have f_R0_2 := (D2.frozen (p := ⟨w.heap.size + 1, 0, none⟩) (World.block_lt_of_cell? _ _ c_R0_1)).trans f_R0_1
      have T2 := Lib.hid (below_trans T1.out D2)
      have z2 : w1.heap.size ≤ w2.heap.size := (by have := hb.size; (try simp at this); omega)
      have ac_A0_2 := fun o => cell_b c_A0_2 (below_alloc _ o)
      have bc_A0_2 := fun o o1 => cell_b (ac_A0_2 o) (below_alloc _ o1)
      have ac_R0_2 := fun o => cell_b c_R0_2 (below_alloc _ o)
      have bc_R0_2 := fun o o1 => cell_b (ac_R0_2 o) (below_alloc _ o1)
      have af_R0_2 := fun o => frz_b (cell_lt c_R0_2) f_R0_2 (below_alloc _ o)
      have bf_R0_2 := fun o o1 => frz_b (cell_lt (ac_R0_2 o)) (af_R0_2 o) (below_alloc _ o1)
      clear ac_A0_1 bc_A0_1 ac_R0_1 bc_R0_1 af_R0_1 bf_R0_1 c_A0_1 c_R0_1 f_R0_1 hb D2 T1
      go_wp2_with fail
      refine bodyPost_ret (v := .tuple #[.agg #[.slice none 0 0], .bool false]) (by simp [results, Try.results20, go_sem, c_R0_2]) rfl ⟨_, _, rfl, ow_nil _ _, T2.out.setCell (by simp) _⟩
  · have hv' : vt xs = false := by simpa using hv
    have hok : waitOk xs t = false := by simp [waitOk, hv']
    have hL : waitL xs t = [] := by simp [waitL, hok]
    rw [hok, hL]
    clear hok hL hv
    clear hr hnc
    go_enter Try.func20, Try.ntmps20
    have T0 := Lib.hid (Below.refl w.heap.size w)
    go_wp2_with fail
    refine (I_CondValid _ _ xs (rd_alloc (rd_alloc (rd_below HR.out T0.out) _) _) (by omega)).mono ?_
    rintro e w1 ⟨rfl, hb⟩
    have D1 : Below w.heap.size w w1 := below_trans (below_alloc _ _) (below_trans (below_alloc _ _) (hb))
    have T1 := Lib.hid (below_trans T0.out D1)
    have z1 : w.heap.size + 2 ≤ w1.heap.size := (by have := hb.size; (try simp at this); omega)
    have c_A0_1 := cell_b (p := ⟨w.heap.size, 0, none⟩) (v := .slice a xs.length cap) (by simp) hb
    have c_R0_1 := cell_b (p := ⟨w.heap.size + 1, 0, none⟩) (v := .slice none 0 0) (by simp) hb
    have f_R0_1 : w1.frozen? ⟨w.heap.size + 1, 0, none⟩ = false := (hb.frozen (p := ⟨w.heap.size + 1, 0, none⟩) (by simp; try omega)).trans (by simp)
    have ac_A0_1 := fun o => cell_b c_A0_1 (below_alloc _ o)
    have bc_A0_1 := fun o o1 => cell_b (ac_A0_1 o) (below_alloc _ o1)
    have ac_R0_1 := fun o => cell_b c_R0_1 (below_alloc _ o)
    have bc_R0_1 := fun o o1 => cell_b (ac_R0_1 o) (below_alloc _ o1)
    have af_R0_1 := fun o => frz_b (cell_lt c_R0_1) f_R0_1 (below_alloc _ o)
    have bf_R0_1 := fun o o1 => frz_b (cell_lt (ac_R0_1 o)) (af_R0_1 o) (below_alloc _ o1)
    clear hb D1 T0
    go_wp2_with fail
    refine bodyPost_ret (v := .tuple #[.agg #[.slice none 0 0], .bool false]) (by simp [results, Try.results20, go_sem, c_R0_1]) rfl ⟨_, _, rfl, ow_nil _ _, T1.out.setCell (by simp) _⟩

set_option maxHeartbeats 1000000 in
theorem S_WaitCond (w : World) (v : Value) (xs : List Int) (t : Int) (hr : Rd w v xs) (hl : xs.length ≤ 4294967296) :
    Calls Try.prog 31 #[.agg #[v], .int .i64 t] w fun e w' => ∃ a cap, e = .returned (.tuple #[.agg #[.slice a (waitL xs t).length cap], .bool (waitOk xs t)]) ∧
      Ow w' w.heap.size (.slice a (waitL xs t).length cap) (waitL xs t) ∧ Below w.heap.size w w' := by
  obtain ⟨i0, hi, hz0, hz1, hz2⟩ := info_parts info3
  have HR := Lib.hid hr
  obtain ⟨a, cap, rfl, hcap, hnc, hr⟩ := hr
  by_cases hv : vt xs = true
  · by_cases ht : thr t = true
    · by_cases hh : hasB xs t = true
      · have hok : waitOk xs t = false := by simp [waitOk, hh]
        have hL : waitL xs t = [] := by simp [waitL, hok]
        have hat := hasB_at xs t
        rw [hh] at hat
        rw [hok, hL]
        clear hok hL
        clear hr hnc
        go_enter Try.func31, Try.ntmps31
        have T0 := Lib.hid (Below.refl w.heap.size w)
        go_wp2_with fail
        refine (S_CondValid _ _ xs (rd_alloc (rd_alloc (rd_below HR.out T0.out) _) _) (by omega)).mono ?_
        rintro e w1 ⟨rfl, hb⟩
        have D1 : Below w.heap.size w w1 := below_trans (below_alloc _ _) (below_trans (below_alloc _ _) (hb))
        have T1 := Lib.hid (below_trans T0.out D1)
        have z1 : w.heap.size + 2 ≤ w1.heap.size := (by have := hb.size; (try simp at this); omega)
        have c_A0_1 := cell_b (p := ⟨w.heap.size, 0, none⟩) (v := .slice a xs.length cap) (by simp) hb
        have c_R0_1 := cell_b (p := ⟨w.heap.size + 1, 0, none⟩) (v := .slice none 0 0) (by simp) hb
        have f_R0_1 : w1.frozen? ⟨w.heap.size + 1, 0, none⟩ = false := (hb.frozen (p := ⟨w.heap.size + 1, 0, none⟩) (by simp; try omega)).trans (by simp)
        have ac_A0_1 := fun o => cell_b c_A0_1 (below_alloc _ o)
        have bc_A0_1 := fun o o1 => cell_b (ac_A0_1 o) (below_alloc _ o1)
        have ac_R0_1 := fun o => cell_b c_R0_1 (below_alloc _ o)
        have bc_R0_1 := fun o o1 => cell_b (ac_R0_1 o) (below_alloc _ o1)
        have af_R0_1 := fun o => frz_b (cell_lt c_R0_1) f_R0_1 (below_alloc _ o)
        have bf_R0_1 := fun o o1 => frz_b (cell_lt (ac_R0_1 o)) (af_R0_1 o) (below_alloc _ o1)
        clear hb D1 T0
        go_wp2_with fail
        refine (same_b (S_l1Thread _ t)).mono ?_
        rintro e w2 ⟨rfl, hb⟩
        have D2 : Below w1.heap.size w1 w2 := hb
        have c_A0_2 := cell_b c_A0_1 D2
        have c_R0_2 := cell_b c_R0_1 D2
        have f_R0_2 := (D2.frozen (p := ⟨w.heap.size + 1, 0, none⟩) (World.block_lt_of_cell? _ _ c_R0_1)).trans f_R0_1
        have T2 := Lib.hid (below_trans T1.out D2)
        have z2 : w1.heap.size ≤ w2.heap.size := (by have := hb.size; (try simp at this); omega)
        have ac_A0_2 := fun o => cell_b c_A0_2 (below_alloc _ o)
        have bc_A0_2 := fun o o1 => cell_b (ac_A0_2 o) (below_alloc _ o1)
        have ac_R0_2 := fun o => cell_b c_R0_2 (below_alloc _ o)
        have bc_R0_2 := fun o o1 => cell_b (ac_R0_2 o) (below_alloc _ o1)
        have af_R0_2 := fun o => frz_b (cell_lt c_R0_2) f_R0_2 (below_alloc _ o)
        have bf_R0_2 := fun o o1 => frz_b (cell_lt (ac_R0_2 o)) (af_R0_2 o) (below_alloc _ o1)
        clear ac_A0_1 bc_A0_1 ac_R0_1 bc_R0_1 af_R0_1 bf_R0_1 c_A0_1 c_R0_1 f_R0_1 hb D2 T1
        go_wp2_with fail
        refine (same_b (S_l2At _ _ xs t (rd_below HR.out T2.out) (by omega))).mono ?_
        rintro e w3 ⟨rfl, hb⟩
        have D3 : Below w2.heap.size w2 w3 := hb
        have c_A0_3 := cell_b c_A0_2 D3
        have c_R0_3 := cell_b c_R0_2 D3
        have f_R0_3 := (D3.frozen (p := ⟨w.heap.size + 1, 0, none⟩) (World.block_lt_of_cell? _ _ c_R0_2)).trans f_R0_2
        have T3 := Lib.hid (below_trans T2.out D3)
        have z3 : w2.heap.size ≤ w3.heap.size := (by have := hb.size; (try simp at this); omega)
        have ac_A0_3 := fun o => cell_b c_A0_3 (below_alloc _ o)
        have bc_A0_3 := fun o o1 => cell_b (ac_A0_3 o) (below_alloc _ o1)
        have ac_R0_3 := fun o => cell_b c_R0_3 (below_alloc _ o)
        have bc_R0_3 := fun o o1 => cell_b (ac_R0_3 o) (below_alloc _ o1)
        have af_R0_3 := fun o => frz_b (cell_lt c_R0_3) f_R0_3 (below_alloc _ o)
        have bf_R0_3 := fun o o1 => frz_b (cell_lt (ac_R0_3 o)) (af_R0_3 o) (below_alloc _ o1)
        clear ac_A0_2 bc_A0_2 ac_R0_2 bc_R0_2 af_R0_2 bf_R0_2 c_A0_2 c_R0_2 f_R0_2 hb D3 T2
        go_wp2_with fail
        refine bodyPost_ret (v := .tuple #[.agg #[.slice none 0 0], .bool false]) (by simp [results, Try.results31, go_sem, c_R0_3]) rfl ⟨_, _, rfl, ow_nil _ _, T3.out.setCell (by simp) _⟩
      · have hh' : hasB xs t = false := by simpa using hh
        have hok : waitOk xs t = true := by simp [waitOk, hv, ht, hh']
        have hL : waitL xs t = xs ++ [t] := by simp [waitL, hok]
        have hl6 := vt_len hv
        have hat := hasB_at xs t
        rw [hh'] at hat
        rw [hok, hL, List.length_append]
        clear hok hL hh
        clear hr hnc
        go_enter Try.func31, Try.ntmps31
        have T0 := Lib.hid (Below.refl w.heap.size w)
        go_wp2_with fail
        refine (S_CondValid _ _ xs (rd_alloc (rd_alloc (rd_below HR.out T0.out) _) _) (by omega)).mono ?_
        rintro e w1 ⟨rfl, hb⟩
        have D1 : Below w.heap.size w w1 := below_trans (below_alloc _ _) (below_trans (below_alloc _ _) (hb))
        have T1 := Lib.hid (below_trans T0.out D1)
        have z1 : w.heap.size + 2 ≤ w1.heap.size := (by have := hb.size; (try simp at this); omega)
        have c_A0_1 := cell_b (p := ⟨w.heap.size, 0, none⟩) (v := .slice a xs.length cap) (by simp) hb
        have c_R0_1 := cell_b (p := ⟨w.heap.size + 1, 0, none⟩) (v := .slice none 0 0) (by simp) hb
        have f_R0_1 : w1.frozen? ⟨w.heap.size + 1, 0, none⟩ = false := (hb.frozen (p := ⟨w.heap.size + 1, 0, none⟩) (by simp; try omega)).trans (by simp)
        have ac_A0_1 := fun o => cell_b c_A0_1 (below_alloc _ o)
        have bc_A0_1 := fun o o1 => cell_b (ac_A0_1 o) (below_alloc _ o1)
        have ac_R0_1 := fun o => cell_b c_R0_1 (below_alloc _ o)
        have bc_R0_1 := fun o o1 => cell_b (ac_R0_1 o) (below_alloc _ o1)
        have af_R0_1 := fun o => frz_b (cell_lt c_R0_1) f_R0_1 (below_alloc _ o)
        have bf_R0_1 := fun o o1 => frz_b (cell_lt (ac_R0_1 o)) (af_R0_1 o) (below_alloc _ o1)
        clear hb D1 T0
        go_wp2_with fail
        refine (same_b (S_l1Thread _ t)).mono ?_
        rintro e w2 ⟨rfl, hb⟩
        have D2 : Below w1.heap.size w1 w2 := hb
        have c_A0_2 := cell_b c_A0_1 D2
        have c_R0_2 := cell_b c_R0_1 D2
        have f_R0_2 := (D2.frozen (p := ⟨w.heap.size + 1, 0, none⟩) (World.block_lt_of_cell? _ _ c_R0_1)).trans f_R0_1
        have T2 := Lib.hid (below_trans T1.out D2)
        have z2 : w1.heap.size ≤ w2.heap.size := (by have := hb.size; (try simp at this); omega)
        have ac_A0_2 := fun o => cell_b c_A0_2 (below_alloc _ o)
        have bc_A0_2 := fun o o1 => cell_b (ac_A0_2 o) (below_alloc _ o1)
        have ac_R0_2 := fun o => cell_b c_R0_2 (below_alloc _ o)
        have bc_R0_2 := fun o o1 => cell_b (ac_R0_2 o) (below_alloc _ o1)
        have af_R0_2 := fun o => frz_b (cell_lt c_R0_2) f_R0_2 (below_alloc _ o)
        have bf_R0_2 := fun o o1 => frz_b (cell_lt (ac_R0_2 o)) (af_R0_2 o) (below_alloc _ o1)
        clear ac_A0_1 bc_A0_1 ac_R0_1 bc_R0_1 af_R0_1 bf_R0_1 c_A0_1 c_R0_1 f_R0_1 hb D2 T1
        go_wp2_with fail
        refine (same_b (S_l2At _ _ xs t (rd_below HR.out T2.out) (by omega))).mono ?_
        rintro e w3 ⟨rfl, hb⟩
        have D3 : Below w2.heap.size w2 w3 := hb
        have c_A0_3 := cell_b c_A0_2 D3
        have c_R0_3 := cell_b c_R0_2 D3
        have f_R0_3 := (D3.frozen (p := ⟨w.heap.size + 1, 0, none⟩) (World.block_lt_of_cell? _ _ c_R0_2)).trans f_R0_2
        have T3 := Lib.hid (below_trans T2.out D3)
        have z3 : w2.heap.size ≤ w3.heap.size := (by have := hb.size; (try simp at this); omega)
        have ac_A0_3 := fun o => cell_b c_A0_3 (below_alloc _ o)
        have bc_A0_3 := fun o o1 => cell_b (ac_A0_3 o) (below_alloc _ o1)
        have ac_R0_3 := fun o => cell_b c_R0_3 (below_alloc _ o)
        have bc_R0_3 := fun o o1 => cell_b (ac_R0_3 o) (below_alloc _ o1)
        have af_R0_3 := fun o => frz_b (cell_lt c_R0_3) f_R0_3 (below_alloc _ o)
        have bf_R0_3 := fun o o1 => frz_b (cell_lt (ac_R0_3 o)) (af_R0_3 o) (below_alloc _ o1)
        clear ac_A0_2 bc_A0_2 ac_R0_2 bc_R0_2 af_R0_2 bf_R0_2 c_A0_2 c_R0_2 f_R0_2 hb D3 T2
        have tok5 : True := trivial
        have tok4 : True := trivial
        go_wp2_with (first | (at_builtin; have _t := tok4; refine wpList_append_rd rfl _ _ 24 rfl (w3.heap.size) i0 Try.underlying24 hi hz0 hz1 hz2 (.slice (some ⟨w3.heap.size, 0, none⟩) 0 0) (0) ([]) rfl (World.ownsRow_made _ #[] 0 (by simp) (by unfold maxLen; omega) rfl) _ _ _ (xs) rfl (rd_alloc (rd_below HR.out T3.out) _) rfl (by unfold maxLen; omega) (by omega) (by simp; try omega) ?_; intro v4 w4 hown hgrow; clear tok4; have ho : w4.ownsRow (w3.heap.size) 3 1 v4 ((xs).length) (ints (xs)) := (by rw [Nat.zero_add, List.nil_append] at hown; exact hown); obtain ⟨a4, cap4, hv⟩ := own_shape ho; subst hv; have c_A0_4 := cell_gr (cell_b c_A0_3 (below_alloc _ _)) hgrow (fun g h => by simp only [Value.ownBlock, Option.some.injEq] at h; show w.heap.size ≠ g; omega); have c_R0_4 := cell_gr (cell_b c_R0_3 (below_alloc _ _)) hgrow (fun g h => by simp only [Value.ownBlock, Option.some.injEq] at h; show w.heap.size + 1 ≠ g; omega); have f_R0_4 := (frz_gr (p := ⟨w.heap.size + 1, 0, none⟩) (cell_lt (cell_b c_R0_3 (below_alloc _ _))) hgrow (fun g h => by simp only [Value.ownBlock, Option.some.injEq] at h; show w.heap.size + 1 ≠ g; omega)).trans (frz_b (cell_lt c_R0_3) f_R0_3 (below_alloc _ _)); have z4 : w3.heap.size + 1 ≤ w4.heap.size := (by have := hgrow.size; (try simp at this); omega); have T4 := Lib.hid (below_gr (T3.out.trans ((below_alloc _ _ : Below w3.heap.size w3 _).mono T3.out.size)) (by have := T3.out.size; simp; try omega) hgrow (fun g h => by have h9 := T3.out.size; simp only [Value.ownBlock, Option.some.injEq] at h; omega)); have o_d_4 := Lib.hid ho; have lo_d := Lib.hid (own_lo o_d_4.out); have hi_d := Lib.hid (own_hi o_d_4.out); have ac_A0_4 := fun o => cell_b c_A0_4 (below_alloc _ o); have bc_A0_4 := fun o o1 => cell_b (ac_A0_4 o) (below_alloc _ o1); have ac_R0_4 := fun o => cell_b c_R0_4 (below_alloc _ o); have bc_R0_4 := fun o o1 => cell_b (ac_R0_4 o) (below_alloc _ o1); have af_R0_4 := fun o => frz_b (cell_lt c_R0_4) f_R0_4 (below_alloc _ o); have bf_R0_4 := fun o o1 => frz_b (cell_lt (ac_R0_4 o)) (af_R0_4 o) (below_alloc _ o1); clear hown hgrow ho T3 ac_A0_3 bc_A0_3 ac_R0_3 bc_R0_3 af_R0_3 bf_R0_3 c_A0_3 c_R0_3 f_R0_3) | (at_builtin; have _t := tok5; refine wpList_append_own _ rfl _ _ 24 rfl (w3.heap.size) 3 i0 (.int .i64 0) 1 8 Try.underlying24 hi hz0 hz1 hz2 rfl (by decide) (.slice a4 xs.length cap4) (xs.length) (ints (xs)) rfl (own_below (o_d_4.out) (below_alloc _ _)) ⟨w4.heap.size, 0, none⟩ 1 1 [.int .i64 (t)] rfl rfl (cell_one_new _ _ _) (ints_oneCell .i64 [t]) (by unfold maxLen; omega) (by omega) (by simp; try omega) ?_; intro v5 w5 hown hgrow _; clear tok5; have ho : w5.ownsRow (w3.heap.size) 3 1 v5 (xs.length + 1) (ints (xs ++ [t])) := (by rw [ints_append]; exact hown); obtain ⟨a5, cap5, hv⟩ := own_shape ho; subst hv; have c_A0_5 := cell_gr (cell_b c_A0_4 (below_alloc _ _)) hgrow (fun g h => by have h1 := lo_d.out g h; have h2 := hi_d.out g h; show w.heap.size ≠ g; omega); have c_R0_5 := cell_gr (cell_b c_R0_4 (below_alloc _ _)) hgrow (fun g h => by have h1 := lo_d.out g h; have h2 := hi_d.out g h; show w.heap.size + 1 ≠ g; omega); have f_R0_5 := (frz_gr (p := ⟨w.heap.size + 1, 0, none⟩) (cell_lt (cell_b c_R0_4 (below_alloc _ _))) hgrow (fun g h => by have h1 := lo_d.out g h; have h2 := hi_d.out g h; show w.heap.size + 1 ≠ g; omega)).trans (frz_b (cell_lt c_R0_4) f_R0_4 (below_alloc _ _)); have z5 : w4.heap.size + 1 ≤ w5.heap.size := (by have := hgrow.size; (try simp at this); omega); have T5 := Lib.hid (below_gr (T4.out.trans ((below_alloc _ _ : Below w4.heap.size w4 _).mono T4.out.size)) (by have := T4.out.size; simp; try omega) hgrow (fun g h => by have h9 := T4.out.size; have h1 := lo_d.out g h; have h2 := hi_d.out g h; omega)); have o_e_5 := Lib.hid ho; have lo_e := Lib.hid (own_lo o_e_5.out); have hi_e := Lib.hid (own_hi o_e_5.out); have ac_A0_5 := fun o => cell_b c_A0_5 (below_alloc _ o); have bc_A0_5 := fun o o1 => cell_b (ac_A0_5 o) (below_alloc _ o1); have ac_R0_5 := fun o => cell_b c_R0_5 (below_alloc _ o); have bc_R0_5 := fun o o1 => cell_b (ac_R0_5 o) (below_alloc _ o1); have af_R0_5 := fun o => frz_b (cell_lt c_R0_5) f_R0_5 (below_alloc _ o); have bf_R0_5 := fun o o1 => frz_b (cell_lt (ac_R0_5 o)) (af_R0_5 o) (below_alloc _ o1); clear hown hgrow ho T4 ac_A0_4 bc_A0_4 ac_R0_4 bc_R0_4 af_R0_4 bf_R0_4 c_A0_4 c_R0_4 f_R0_4 o_d_4))
        refine bodyPost_ret (v := .tuple #[.agg #[.slice a5 (xs.length + 1) cap5], .bool true]) (by simp [results, Try.results31, go_sem, c_R0_5]) rfl ⟨a5, cap5, rfl, ?_, T5.out.setCell (by simp) _⟩
        refine own_base (b := w3.heap.size) (ownsRow_setCell_below ?_ (by show _ + 1 < _; omega) _) (by omega)
        have := o_e_5.out; rwa [show (xs ++ [t]).length = xs.length + 1 by simp]
    · have ht' : thr t = false := by simpa using ht
      have hok : waitOk xs t = false := by simp [waitOk, ht']
      have hL : waitL xs t = [] := by simp [waitL, hok]
      rw [hok, hL]
      clear hok hL ht
      clear hr hnc
      go_enter Try.func31, Try.ntmps31
      have T0 := Lib.hid (Below.refl w.heap.size w)
      go_wp2_with fail
      refine (S_CondValid _ _ xs (rd_alloc (rd_alloc (rd_below HR.out T0.out) _) _) (by omega)).mono ?_
      rintro e w1 ⟨rfl, hb⟩
      have D1 : Below w.heap.size w w1 := below_trans (below_alloc _ _) (below_trans (below_alloc _ _) (hb))
      have T1 := Lib.hid (below_trans T0.out D1)
      have z1 : w.heap.size + 2 ≤ w1.heap.size := (by have := hb.size; (try simp at this); omega)
      have c_A0_1 := cell_b (p := ⟨w.heap.size, 0, none⟩) (v := .slice a xs.length cap) (by simp) hb
      have c_R0_1 := cell_b (p := ⟨w.heap.size + 1, 0, none⟩) (v := .slice none 0 0) (by simp) hb
      have f_R0_1 : w1.frozen? ⟨w.heap.size + 1, 0, none⟩ = false := (hb.frozen (p := ⟨w.heap.size + 1, 0, none⟩) (by simp; try omega)).trans (by simp)
      have ac_A0_1 := fun o => cell_b c_A0_1 (below_alloc _ o)
      have bc_A0_1 := fun o o1 => cell_b (ac_A0_1 o) (below_alloc _ o1)
      have ac_R0_1 := fun o => cell_b c_R0_1 (below_alloc _ o)
      have bc_R0_1 := fun o o1 => cell_b (ac_R0_1 o) (below_alloc _ o1)
      have af_R0_1 := fun o => frz_b (cell_lt c_R0_1) f_R0_1 (below_alloc _ o)
      have bf_R0_1 := fun o o1 => frz_b (cell_lt (ac_R0_1 o)) (af_R0_1 o) (below_alloc _ o1)
      clear hb D1 T0
      go_wp2_with fail
      refine (same_b (S_l1Thread _ t)).mono ?_
      rintro e w2 ⟨rfl, hb⟩
      have D2 : Below w1.heap.size w1 w2 := hb
      have c_A0_2 := cell_b c_A0_1 D2
      have c_R0_2 := cell_b c_R0_1 D2
      have f_R0_2 := (D2.frozen (p := ⟨w.heap.size + 1, 0, none⟩) (World.block_lt_of_cell? _ _ c_R0_1)).trans f_R0_1
      have T2 := Lib.hid (below_trans T1.out D2)
      have z2 : w1.heap.size ≤ w2.heap.size := (by have := hb.size; (try simp at this); omega)
      have ac_A0_2 := fun o => cell_b c_A0_2 (below_alloc _ o)
      have bc_A0_2 := fun o o1 => cell_b (ac_A0_2 o) (below_alloc _ o1)
      have ac_R0_2 := fun o => cell_b c_R0_2 (below_alloc _ o)
      have bc_R0_2 := fun o o1 => cell_b (ac_R0_2 o) (below_alloc _ o1)
      have af_R0_2 := fun o => frz_b (cell_lt c_R0_2) f_R0_2 (below_alloc _ o)
      have bf_R0_2 := fun o o1 => frz_b (cell_lt (ac_R0_2 o)) (af_R0_2 o) (below_alloc _ o1)
      clear ac_A0_1 bc_A0_1 ac_R0_1 bc_R0_1 af_R0_1 bf_R0_1 c_A0_1 c_R0_1 f_R0_1 hb D2 T1
      go_wp2_with fail
      refine bodyPost_ret (v := .tuple #[.agg #[.slice none 0 0], .bool false]) (by simp [results, Try.results31, go_sem, c_R0_2]) rfl ⟨_, _, rfl, ow_nil _ _, T2.out.setCell (by simp) _⟩
  · have hv' : vt xs = false := by simpa using hv
    have hok : waitOk xs t = false := by simp [waitOk, hv']
    have hL : waitL xs t = [] := by simp [waitL, hok]
    rw [hok, hL]
    clear hok hL hv
    clear hr hnc
    go_enter Try.func31, Try.ntmps31
    have T0 := Lib.hid (Below.refl w.heap.size w)
    go_wp2_with fail
    refine (S_CondValid _ _ xs (rd_alloc (rd_alloc (rd_below HR.out T0.out) _) _) (by omega)).mono ?_
    rintro e w1 ⟨rfl, hb⟩
    have D1 : Below w.heap.size w w1 := below_trans (below_alloc _ _) (below_trans (below_alloc _ _) (hb))
    have T1 := Lib.hid (below_trans T0.out D1)
    have z1 : w.heap.size + 2 ≤ w1.heap.size := (by have := hb.size; (try simp at this); omega)
    have c_A0_1 := cell_b (p := ⟨w.heap.size, 0, none⟩) (v := .slice a xs.length cap) (by simp) hb
    have c_R0_1 := cell_b (p := ⟨w.heap.size + 1, 0, none⟩) (v := .slice none 0 0) (by simp) hb
    have f_R0_1 : w1.frozen? ⟨w.heap.size + 1, 0, none⟩ = false := (hb.frozen (p := ⟨w.heap.size + 1, 0, none⟩) (by simp; try omega)).trans (by simp)
    have ac_A0_1 := fun o => cell_b c_A0_1 (below_alloc _ o)
    have bc_A0_1 := fun o o1 => cell_b (ac_A0_1 o) (below_alloc _ o1)
    have ac_R0_1 := fun o => cell_b c_R0_1 (below_alloc _ o)
    have bc_R0_1 := fun o o1 => cell_b (ac_R0_1 o) (below_alloc _ o1)
    have af_R0_1 := fun o => frz_b (cell_lt c_R0_1) f_R0_1 (below_alloc _ o)
    have bf_R0_1 := fun o o1 => frz_b (cell_lt (ac_R0_1 o)) (af_R0_1 o) (below_alloc _ o1)
    clear hb D1 T0
    go_wp2_with fail
    refine bodyPost_ret (v := .tuple #[.agg #[.slice none 0 0], .bool false]) (by simp [results, Try.results31, go_sem, c_R0_1]) rfl ⟨_, _, rfl, ow_nil _ _, T1.out.setCell (by simp) _⟩
end Go.Proofs.Ytkglngcopflgeaa
