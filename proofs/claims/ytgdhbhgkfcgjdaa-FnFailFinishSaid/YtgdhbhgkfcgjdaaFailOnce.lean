/- Contracts of FailOnce. -/
import Derived.Test.YtgdhbhgkfcgjdaaRuns
import Derived.Deep.RegionHeld3
namespace Go.Proofs.Ytgdhbhgkfcgjdaa
open Go.RowKit
theorem rd_tail {w : World} {g off cap : Nat} {x : Int} {ys : List Int} (hg : g < w.heap.size) (hcap : (x :: ys).length ≤ cap)
    (hc : ∀ j, j < (x :: ys).length → w.cell? ⟨g, off + j, none⟩ = some (.int .i64 ((x :: ys).getD j 0))) (a : Nat) (ha : a = off + 1 ∨ ys = []) : Rd w (.slice (some ⟨g, a, none⟩) ys.length (cap - 1)) ys := by
  simp at hcap
  refine ⟨_, _, rfl, by omega, by simp, ?_⟩
  rcases ha with rfl | rfl
  · refine .inr ⟨g, off + 1, rfl, hg, fun j hj => ?_⟩
    have := hc (j + 1) (by simp; omega)
    rw [show off + (j + 1) = off + 1 + j by omega] at this
    rw [this]; simp
  · exact .inl rfl
theorem runs_len {s o k : Int} {xs : List Int} {t : Int} (h : runs s o k xs t = true) : xs.length ≤ 6 := by
  unfold runs at h; simp only [Bool.and_eq_true] at h; exact oval_len h.1.1
/-- What FailOnce hands back: state, owner, waits, ok. -/
def failO (s o k : Int) (xs : List Int) (t : Int) : Int × Int × List Int × Bool :=
  if runs s o k xs t = true then (match xs with | [] => (0, 0, [], true) | x :: ys => (1, x, ys, true)) else (0, 0, [], false)
theorem failO_len (s o k : Int) (xs : List Int) (t : Int) : (failO s o k xs t).2.2.1.length ≤ xs.length := by unfold failO; split <;> (try split) <;> simp

set_option maxHeartbeats 4000000 in
set_option maxRecDepth 100000 in
theorem I_FailOnce (w : World) (s o k : Int) (v : Value) (xs : List Int) (t : Int) (hr : Rd w v xs) (hl : xs.length ≤ 4294967296) :
    Calls Try.prog 30 #[.agg #[.int .i64 s, .int .i64 o, .int .i64 k, v], .int .i64 t] w fun e w' => ∃ a cap, e = .returned (.tuple #[.agg #[.int .i64 (failO s o k xs t).1, .int .i64 (failO s o k xs t).2.1, .int .i64 0, .slice a (failO s o k xs t).2.2.1.length cap], .bool (failO s o k xs t).2.2.2]) ∧
      Ow w' w.heap.size (.slice a (failO s o k xs t).2.2.1.length cap) (failO s o k xs t).2.2.1 ∧ Below w.heap.size w w' := by
  obtain ⟨i0, hi, hz0, hz1, hz2⟩ := info_parts info3
  have HR := Lib.hid hr
  obtain ⟨a, cap, rfl, hcap, hnc, hr⟩ := hr
  by_cases hv : oval s o k xs = true
  · have hl6 := oval_len hv
    by_cases h1 : s = 1
    · subst h1
      by_cases ho : o = t
      · subst ho
        rcases xs with _ | ⟨x, ys⟩
        · have e0 : failO 1 o k [] o = (0, 0, [], true) := by simp [failO, runs, hv]
          simp only [e0]
          clear e0
          clear hr hnc
          go_enter Try.func30, Try.ntmps30
          have T0 := Lib.hid (Below.refl w.heap.size w)
          go_wp2_with fail
          refine (I_OnceValid _ 1 o k _ [] (rd_alloc (rd_alloc (rd_below HR.out T0.out) _) _) (by omega)).mono ?_
          rintro e w1 ⟨rfl, hb⟩
          have D1 : Below w.heap.size w w1 := below_trans (below_alloc _ _) (below_trans (below_alloc _ _) (hb))
          have T1 := Lib.hid (below_trans T0.out D1)
          have z1 : w.heap.size + 2 ≤ w1.heap.size := (by have := hb.size; (try simp at this); omega)
          have c_A0_1 := cell_b (p := ⟨w.heap.size, 0, none⟩) (v := .int .i64 1) (by simp) hb
          have c_A1_1 := cell_b (p := ⟨w.heap.size, 1, none⟩) (v := .int .i64 o) (by simp) hb
          have c_A2_1 := cell_b (p := ⟨w.heap.size, 2, none⟩) (v := .int .i64 k) (by simp) hb
          have c_A3_1 := cell_b (p := ⟨w.heap.size, 3, none⟩) (v := .slice a 0 cap) (by simp) hb
          have c_R0_1 := cell_b (p := ⟨w.heap.size + 1, 0, none⟩) (v := .int .i64 0) (by simp) hb
          have f_R0_1 : w1.frozen? ⟨w.heap.size + 1, 0, none⟩ = false := (hb.frozen (p := ⟨w.heap.size + 1, 0, none⟩) (by simp; try omega)).trans (by simp)
          have c_R1_1 := cell_b (p := ⟨w.heap.size + 1, 1, none⟩) (v := .int .i64 0) (by simp) hb
          have f_R1_1 : w1.frozen? ⟨w.heap.size + 1, 1, none⟩ = false := (hb.frozen (p := ⟨w.heap.size + 1, 1, none⟩) (by simp; try omega)).trans (by simp)
          have c_R2_1 := cell_b (p := ⟨w.heap.size + 1, 2, none⟩) (v := .int .i64 0) (by simp) hb
          have f_R2_1 : w1.frozen? ⟨w.heap.size + 1, 2, none⟩ = false := (hb.frozen (p := ⟨w.heap.size + 1, 2, none⟩) (by simp; try omega)).trans (by simp)
          have c_R3_1 := cell_b (p := ⟨w.heap.size + 1, 3, none⟩) (v := .slice none 0 0) (by simp) hb
          have f_R3_1 : w1.frozen? ⟨w.heap.size + 1, 3, none⟩ = false := (hb.frozen (p := ⟨w.heap.size + 1, 3, none⟩) (by simp; try omega)).trans (by simp)
          have ac_A0_1 := fun o => cell_b c_A0_1 (below_alloc _ o)
          have ac_A1_1 := fun o => cell_b c_A1_1 (below_alloc _ o)
          have ac_A2_1 := fun o => cell_b c_A2_1 (below_alloc _ o)
          have ac_A3_1 := fun o => cell_b c_A3_1 (below_alloc _ o)
          have ac_R0_1 := fun o => cell_b c_R0_1 (below_alloc _ o)
          have ac_R1_1 := fun o => cell_b c_R1_1 (below_alloc _ o)
          have ac_R2_1 := fun o => cell_b c_R2_1 (below_alloc _ o)
          have ac_R3_1 := fun o => cell_b c_R3_1 (below_alloc _ o)
          have af_R0_1 := fun o => frz_b (cell_lt c_R0_1) f_R0_1 (below_alloc _ o)
          have af_R1_1 := fun o => frz_b (cell_lt c_R1_1) f_R1_1 (below_alloc _ o)
          have af_R2_1 := fun o => frz_b (cell_lt c_R2_1) f_R2_1 (below_alloc _ o)
          have af_R3_1 := fun o => frz_b (cell_lt c_R3_1) f_R3_1 (below_alloc _ o)
          clear hb D1 T0
          go_wp2_with fail
          refine bodyPost_ret (v := .tuple #[.agg #[.int .i64 0, .int .i64 0, .int .i64 0, .slice none 0 0], .bool true]) (by simp [results, Try.results30, go_sem, c_R0_1, c_R1_1, c_R2_1, c_R3_1]) rfl ⟨_, _, rfl, ow_nil _ _, ((((T1.out).setCell (by simp) _).setCell (by simp) _).setCell (by simp) _).setCell (by simp) _⟩
        · rcases hr with hr | ⟨gb, off, rfl, hg, hc⟩
          · simp at hr
          have c_E0_0 := hc 0 (by simp)
          simp only [Nat.add_zero, List.getD_cons_zero] at c_E0_0
          have HC := Lib.hid hc
          clear hc hnc
          by_cases hc1 : cap = 1
          · subst hc1
            obtain rfl : ys = [] := by simp at hcap; exact hcap
            have e0 : failO 1 o k [x] o = (1, x, [], true) := by simp [failO, runs, hv]
            simp only [e0]
            clear e0
            have HT := Lib.hid (rd_tail (w := w) (off := off) (cap := 1) (x := x) (ys := []) hg hcap HC.out off (.inr rfl))
            go_enter Try.func30, Try.ntmps30
            have T0 := Lib.hid (Below.refl w.heap.size w)
            go_wp2_with fail
            refine (I_OnceValid _ 1 o k _ [x] (rd_alloc (rd_alloc (rd_below HR.out T0.out) _) _) (by omega)).mono ?_
            rintro e w1 ⟨rfl, hb⟩
            have D1 : Below w.heap.size w w1 := below_trans (below_alloc _ _) (below_trans (below_alloc _ _) (hb))
            have c_E0_1 := cell_b c_E0_0 D1
            have T1 := Lib.hid (below_trans T0.out D1)
            have z1 : w.heap.size + 2 ≤ w1.heap.size := (by have := hb.size; (try simp at this); omega)
            have c_A0_1 := cell_b (p := ⟨w.heap.size, 0, none⟩) (v := .int .i64 1) (by simp) hb
            have c_A1_1 := cell_b (p := ⟨w.heap.size, 1, none⟩) (v := .int .i64 o) (by simp) hb
            have c_A2_1 := cell_b (p := ⟨w.heap.size, 2, none⟩) (v := .int .i64 k) (by simp) hb
            have c_A3_1 := cell_b (p := ⟨w.heap.size, 3, none⟩) (v := .slice (some ⟨gb, off, none⟩) 1 1) (by simp) hb
            have c_R0_1 := cell_b (p := ⟨w.heap.size + 1, 0, none⟩) (v := .int .i64 0) (by simp) hb
            have f_R0_1 : w1.frozen? ⟨w.heap.size + 1, 0, none⟩ = false := (hb.frozen (p := ⟨w.heap.size + 1, 0, none⟩) (by simp; try omega)).trans (by simp)
            have c_R1_1 := cell_b (p := ⟨w.heap.size + 1, 1, none⟩) (v := .int .i64 0) (by simp) hb
            have f_R1_1 : w1.frozen? ⟨w.heap.size + 1, 1, none⟩ = false := (hb.frozen (p := ⟨w.heap.size + 1, 1, none⟩) (by simp; try omega)).trans (by simp)
            have c_R2_1 := cell_b (p := ⟨w.heap.size + 1, 2, none⟩) (v := .int .i64 0) (by simp) hb
            have f_R2_1 : w1.frozen? ⟨w.heap.size + 1, 2, none⟩ = false := (hb.frozen (p := ⟨w.heap.size + 1, 2, none⟩) (by simp; try omega)).trans (by simp)
            have c_R3_1 := cell_b (p := ⟨w.heap.size + 1, 3, none⟩) (v := .slice none 0 0) (by simp) hb
            have f_R3_1 : w1.frozen? ⟨w.heap.size + 1, 3, none⟩ = false := (hb.frozen (p := ⟨w.heap.size + 1, 3, none⟩) (by simp; try omega)).trans (by simp)
            have ac_E0_1 := fun o => cell_b c_E0_1 (below_alloc _ o)
            have ac_A0_1 := fun o => cell_b c_A0_1 (below_alloc _ o)
            have ac_A1_1 := fun o => cell_b c_A1_1 (below_alloc _ o)
            have ac_A2_1 := fun o => cell_b c_A2_1 (below_alloc _ o)
            have ac_A3_1 := fun o => cell_b c_A3_1 (below_alloc _ o)
            have ac_R0_1 := fun o => cell_b c_R0_1 (below_alloc _ o)
            have ac_R1_1 := fun o => cell_b c_R1_1 (below_alloc _ o)
            have ac_R2_1 := fun o => cell_b c_R2_1 (below_alloc _ o)
            have ac_R3_1 := fun o => cell_b c_R3_1 (below_alloc _ o)
            have af_R0_1 := fun o => frz_b (cell_lt c_R0_1) f_R0_1 (below_alloc _ o)
            have af_R1_1 := fun o => frz_b (cell_lt c_R1_1) f_R1_1 (below_alloc _ o)
            have af_R2_1 := fun o => frz_b (cell_lt c_R2_1) f_R2_1 (below_alloc _ o)
            have af_R3_1 := fun o => frz_b (cell_lt c_R3_1) f_R3_1 (below_alloc _ o)
            clear c_E0_0 hb D1 T0
            have i5 : ¬ gb = w.heap.size + 1 := by omega
            have i6 : ¬ w.heap.size + 1 = gb := by omega
            have HT1 := HT
            go_wp2_with fail
            go_region_held3 (fun w' => w'.cell? ⟨w.heap.size, 3, none⟩ = some (.slice (some ⟨gb, off, none⟩) 1 1) ∧ w'.cell? ⟨gb, off, none⟩ = some (.int .i64 x)) (first | exact ⟨c_A3_1, c_E0_1⟩ | exact ⟨c_A3_2, c_E0_2⟩ | go_keep)
              (first | (go_at_call 46; refine (I_cloneInts _ _ [] (rd_drew (rd_below HT.out T1.out)) (by first | omega | (simp at hl6; omega) | simp)).mono ?_; rintro e w2 ⟨a2, cap2, rfl, hd, hb⟩; have D2 : Below w1.heap.size w1 w2 := below_trans (drew_below _) (hb); have c_E0_2 := cell_b c_E0_1 D2; have c_A0_2 := cell_b c_A0_1 D2; have c_A1_2 := cell_b c_A1_1 D2; have c_A2_2 := cell_b c_A2_1 D2; have c_A3_2 := cell_b c_A3_1 D2; have c_R0_2 := cell_b c_R0_1 D2; have c_R1_2 := cell_b c_R1_1 D2; have c_R2_2 := cell_b c_R2_1 D2; have c_R3_2 := cell_b c_R3_1 D2; have f_R0_2 := (D2.frozen (p := ⟨w.heap.size + 1, 0, none⟩) (World.block_lt_of_cell? _ _ c_R0_1)).trans f_R0_1; have f_R1_2 := (D2.frozen (p := ⟨w.heap.size + 1, 1, none⟩) (World.block_lt_of_cell? _ _ c_R1_1)).trans f_R1_1; have f_R2_2 := (D2.frozen (p := ⟨w.heap.size + 1, 2, none⟩) (World.block_lt_of_cell? _ _ c_R2_1)).trans f_R2_1; have f_R3_2 := (D2.frozen (p := ⟨w.heap.size + 1, 3, none⟩) (World.block_lt_of_cell? _ _ c_R3_1)).trans f_R3_1; have T2 := Lib.hid (below_trans T1.out D2); have z2 : w1.heap.size ≤ w2.heap.size := (by have := hb.size; (try simp at this); omega); have o_d_2 := Lib.hid (own_base hd (show w1.heap.size ≤ _ by simp; try omega)); have lo_d := Lib.hid (own_lo o_d_2.out); have hi_d := Lib.hid (own_hi o_d_2.out); have ac_E0_2 := fun o => cell_b c_E0_2 (below_alloc _ o); have ac_A0_2 := fun o => cell_b c_A0_2 (below_alloc _ o); have ac_A1_2 := fun o => cell_b c_A1_2 (below_alloc _ o); have ac_A2_2 := fun o => cell_b c_A2_2 (below_alloc _ o); have ac_A3_2 := fun o => cell_b c_A3_2 (below_alloc _ o); have ac_R0_2 := fun o => cell_b c_R0_2 (below_alloc _ o); have ac_R1_2 := fun o => cell_b c_R1_2 (below_alloc _ o); have ac_R2_2 := fun o => cell_b c_R2_2 (below_alloc _ o); have ac_R3_2 := fun o => cell_b c_R3_2 (below_alloc _ o); have af_R0_2 := fun o => frz_b (cell_lt c_R0_2) f_R0_2 (below_alloc _ o); have af_R1_2 := fun o => frz_b (cell_lt c_R1_2) f_R1_2 (below_alloc _ o); have af_R2_2 := fun o => frz_b (cell_lt c_R2_2) f_R2_2 (below_alloc _ o); have af_R3_2 := fun o => frz_b (cell_lt c_R3_2) f_R3_2 (below_alloc _ o); clear ac_E0_1 ac_A0_1 ac_A1_1 ac_A2_1 ac_A3_1 ac_R0_1 ac_R1_1 ac_R2_1 ac_R3_1 af_R0_1 af_R1_1 af_R2_1 af_R3_1 c_E0_1 c_A0_1 c_A1_1 c_A2_1 c_A3_1 c_R0_1 c_R1_1 c_R2_1 c_R3_1 f_R0_1 f_R1_1 f_R2_1 f_R3_1 hb D2 hd T1))
            all_goals go_wp2_with fail
            have O2 := o_d_2.out
            refine bodyPost_ret (v := .tuple #[.agg #[.int .i64 1, .int .i64 x, .int .i64 0, .slice a2 0 cap2], .bool true]) (by simp [results, Try.results30, go_sem, c_R0_2, c_R1_2, c_R2_2, c_R3_2]) rfl ⟨_, _, rfl, ?_, ((((T2.out).setCell (by simp) _).setCell (by simp) _).setCell (by simp) _).setCell (by simp) _⟩
            refine own_base (b := w1.heap.size) ?_ (by omega)
            repeat (first | exact O2 | refine ownsRow_setCell_below ?_ (by show _ + 1 < _; omega) _)
          · have e0 : failO 1 o k (x :: ys) o = (1, x, ys, true) := by simp [failO, runs, hv]
            simp only [e0]
            clear e0
            have HT := Lib.hid (rd_tail (w := w) (off := off) (cap := cap) (x := x) (ys := ys) hg hcap HC.out (off + 1) (.inl rfl))
            go_enter Try.func30, Try.ntmps30
            have T0 := Lib.hid (Below.refl w.heap.size w)
            go_wp2_with fail
            refine (I_OnceValid _ 1 o k _ (x :: ys) (rd_alloc (rd_alloc (rd_below HR.out T0.out) _) _) (by omega)).mono ?_
            rintro e w1 ⟨rfl, hb⟩
            have D1 : Below w.heap.size w w1 := below_trans (below_alloc _ _) (below_trans (below_alloc _ _) (hb))
            have c_E0_1 := cell_b c_E0_0 D1
            have T1 := Lib.hid (below_trans T0.out D1)
            have z1 : w.heap.size + 2 ≤ w1.heap.size := (by have := hb.size; (try simp at this); omega)
            have c_A0_1 := cell_b (p := ⟨w.heap.size, 0, none⟩) (v := .int .i64 1) (by simp) hb
            have c_A1_1 := cell_b (p := ⟨w.heap.size, 1, none⟩) (v := .int .i64 o) (by simp) hb
            have c_A2_1 := cell_b (p := ⟨w.heap.size, 2, none⟩) (v := .int .i64 k) (by simp) hb
            have c_A3_1 := cell_b (p := ⟨w.heap.size, 3, none⟩) (v := .slice (some ⟨gb, off, none⟩) (ys.length + 1) cap) (by simp) hb
            have c_R0_1 := cell_b (p := ⟨w.heap.size + 1, 0, none⟩) (v := .int .i64 0) (by simp) hb
            have f_R0_1 : w1.frozen? ⟨w.heap.size + 1, 0, none⟩ = false := (hb.frozen (p := ⟨w.heap.size + 1, 0, none⟩) (by simp; try omega)).trans (by simp)
            have c_R1_1 := cell_b (p := ⟨w.heap.size + 1, 1, none⟩) (v := .int .i64 0) (by simp) hb
            have f_R1_1 : w1.frozen? ⟨w.heap.size + 1, 1, none⟩ = false := (hb.frozen (p := ⟨w.heap.size + 1, 1, none⟩) (by simp; try omega)).trans (by simp)
            have c_R2_1 := cell_b (p := ⟨w.heap.size + 1, 2, none⟩) (v := .int .i64 0) (by simp) hb
            have f_R2_1 : w1.frozen? ⟨w.heap.size + 1, 2, none⟩ = false := (hb.frozen (p := ⟨w.heap.size + 1, 2, none⟩) (by simp; try omega)).trans (by simp)
            have c_R3_1 := cell_b (p := ⟨w.heap.size + 1, 3, none⟩) (v := .slice none 0 0) (by simp) hb
            have f_R3_1 : w1.frozen? ⟨w.heap.size + 1, 3, none⟩ = false := (hb.frozen (p := ⟨w.heap.size + 1, 3, none⟩) (by simp; try omega)).trans (by simp)
            have ac_E0_1 := fun o => cell_b c_E0_1 (below_alloc _ o)
            have ac_A0_1 := fun o => cell_b c_A0_1 (below_alloc _ o)
            have ac_A1_1 := fun o => cell_b c_A1_1 (below_alloc _ o)
            have ac_A2_1 := fun o => cell_b c_A2_1 (below_alloc _ o)
            have ac_A3_1 := fun o => cell_b c_A3_1 (below_alloc _ o)
            have ac_R0_1 := fun o => cell_b c_R0_1 (below_alloc _ o)
            have ac_R1_1 := fun o => cell_b c_R1_1 (below_alloc _ o)
            have ac_R2_1 := fun o => cell_b c_R2_1 (below_alloc _ o)
            have ac_R3_1 := fun o => cell_b c_R3_1 (below_alloc _ o)
            have af_R0_1 := fun o => frz_b (cell_lt c_R0_1) f_R0_1 (below_alloc _ o)
            have af_R1_1 := fun o => frz_b (cell_lt c_R1_1) f_R1_1 (below_alloc _ o)
            have af_R2_1 := fun o => frz_b (cell_lt c_R2_1) f_R2_1 (below_alloc _ o)
            have af_R3_1 := fun o => frz_b (cell_lt c_R3_1) f_R3_1 (below_alloc _ o)
            clear c_E0_0 hb D1 T0
            have i1 : (0 : Int) ≤ (ys.length : Int) := by omega
            have i2 : (ys.length : Int) + 1 ≤ (cap : Int) := by simp at hcap; omega
            have i3 : ys.length + 1 ≤ cap := by simp at hcap; omega
            have i4 : (1 : Int) ≤ (ys.length : Int) + 1 := by omega
            have i5 : ¬ gb = w.heap.size + 1 := by omega
            have i6 : ¬ w.heap.size + 1 = gb := by omega
            have HT1 := HT
            go_wp2_with fail
            go_region_held3 (fun w' => w'.cell? ⟨w.heap.size, 3, none⟩ = some (.slice (some ⟨gb, off, none⟩) (ys.length + 1) cap) ∧ w'.cell? ⟨gb, off, none⟩ = some (.int .i64 x)) (first | exact ⟨c_A3_1, c_E0_1⟩ | exact ⟨c_A3_2, c_E0_2⟩ | go_keep)
              (first | (go_at_call 46; refine (I_cloneInts _ _ ys (rd_drew (rd_below HT.out T1.out)) (by first | omega | (simp at hl6; omega) | simp)).mono ?_; rintro e w2 ⟨a2, cap2, rfl, hd, hb⟩; have D2 : Below w1.heap.size w1 w2 := below_trans (drew_below _) (hb); have c_E0_2 := cell_b c_E0_1 D2; have c_A0_2 := cell_b c_A0_1 D2; have c_A1_2 := cell_b c_A1_1 D2; have c_A2_2 := cell_b c_A2_1 D2; have c_A3_2 := cell_b c_A3_1 D2; have c_R0_2 := cell_b c_R0_1 D2; have c_R1_2 := cell_b c_R1_1 D2; have c_R2_2 := cell_b c_R2_1 D2; have c_R3_2 := cell_b c_R3_1 D2; have f_R0_2 := (D2.frozen (p := ⟨w.heap.size + 1, 0, none⟩) (World.block_lt_of_cell? _ _ c_R0_1)).trans f_R0_1; have f_R1_2 := (D2.frozen (p := ⟨w.heap.size + 1, 1, none⟩) (World.block_lt_of_cell? _ _ c_R1_1)).trans f_R1_1; have f_R2_2 := (D2.frozen (p := ⟨w.heap.size + 1, 2, none⟩) (World.block_lt_of_cell? _ _ c_R2_1)).trans f_R2_1; have f_R3_2 := (D2.frozen (p := ⟨w.heap.size + 1, 3, none⟩) (World.block_lt_of_cell? _ _ c_R3_1)).trans f_R3_1; have T2 := Lib.hid (below_trans T1.out D2); have z2 : w1.heap.size ≤ w2.heap.size := (by have := hb.size; (try simp at this); omega); have o_d_2 := Lib.hid (own_base hd (show w1.heap.size ≤ _ by simp; try omega)); have lo_d := Lib.hid (own_lo o_d_2.out); have hi_d := Lib.hid (own_hi o_d_2.out); have ac_E0_2 := fun o => cell_b c_E0_2 (below_alloc _ o); have ac_A0_2 := fun o => cell_b c_A0_2 (below_alloc _ o); have ac_A1_2 := fun o => cell_b c_A1_2 (below_alloc _ o); have ac_A2_2 := fun o => cell_b c_A2_2 (below_alloc _ o); have ac_A3_2 := fun o => cell_b c_A3_2 (below_alloc _ o); have ac_R0_2 := fun o => cell_b c_R0_2 (below_alloc _ o); have ac_R1_2 := fun o => cell_b c_R1_2 (below_alloc _ o); have ac_R2_2 := fun o => cell_b c_R2_2 (below_alloc _ o); have ac_R3_2 := fun o => cell_b c_R3_2 (below_alloc _ o); have af_R0_2 := fun o => frz_b (cell_lt c_R0_2) f_R0_2 (below_alloc _ o); have af_R1_2 := fun o => frz_b (cell_lt c_R1_2) f_R1_2 (below_alloc _ o); have af_R2_2 := fun o => frz_b (cell_lt c_R2_2) f_R2_2 (below_alloc _ o); have af_R3_2 := fun o => frz_b (cell_lt c_R3_2) f_R3_2 (below_alloc _ o); clear ac_E0_1 ac_A0_1 ac_A1_1 ac_A2_1 ac_A3_1 ac_R0_1 ac_R1_1 ac_R2_1 ac_R3_1 af_R0_1 af_R1_1 af_R2_1 af_R3_1 c_E0_1 c_A0_1 c_A1_1 c_A2_1 c_A3_1 c_R0_1 c_R1_1 c_R2_1 c_R3_1 f_R0_1 f_R1_1 f_R2_1 f_R3_1 hb D2 hd T1))
            all_goals go_wp2_with fail
            have O2 := o_d_2.out
            refine bodyPost_ret (v := .tuple #[.agg #[.int .i64 1, .int .i64 x, .int .i64 0, .slice a2 ys.length cap2], .bool true]) (by simp [results, Try.results30, go_sem, c_R0_2, c_R1_2, c_R2_2, c_R3_2]) rfl ⟨_, _, rfl, ?_, ((((T2.out).setCell (by simp) _).setCell (by simp) _).setCell (by simp) _).setCell (by simp) _⟩
            refine own_base (b := w1.heap.size) ?_ (by omega)
            repeat (first | exact O2 | refine ownsRow_setCell_below ?_ (by show _ + 1 < _; omega) _)
      · have e0 : failO 1 o k xs t = (0, 0, [], false) := by simp [failO, runs, ho]
        simp only [e0]
        clear e0
        clear hr hnc
        go_enter Try.func30, Try.ntmps30
        have T0 := Lib.hid (Below.refl w.heap.size w)
        go_wp2_with fail
        refine (I_OnceValid _ 1 o k _ xs (rd_alloc (rd_alloc (rd_below HR.out T0.out) _) _) (by omega)).mono ?_
        rintro e w1 ⟨rfl, hb⟩
        have D1 : Below w.heap.size w w1 := below_trans (below_alloc _ _) (below_trans (below_alloc _ _) (hb))
        have T1 := Lib.hid (below_trans T0.out D1)
        have z1 : w.heap.size + 2 ≤ w1.heap.size := (by have := hb.size; (try simp at this); omega)
        have c_A0_1 := cell_b (p := ⟨w.heap.size, 0, none⟩) (v := .int .i64 1) (by simp) hb
        have c_A1_1 := cell_b (p := ⟨w.heap.size, 1, none⟩) (v := .int .i64 o) (by simp) hb
        have c_A2_1 := cell_b (p := ⟨w.heap.size, 2, none⟩) (v := .int .i64 k) (by simp) hb
        have c_A3_1 := cell_b (p := ⟨w.heap.size, 3, none⟩) (v := .slice a xs.length cap) (by simp) hb
        have c_R0_1 := cell_b (p := ⟨w.heap.size + 1, 0, none⟩) (v := .int .i64 0) (by simp) hb
        have f_R0_1 : w1.frozen? ⟨w.heap.size + 1, 0, none⟩ = false := (hb.frozen (p := ⟨w.heap.size + 1, 0, none⟩) (by simp; try omega)).trans (by simp)
        have c_R1_1 := cell_b (p := ⟨w.heap.size + 1, 1, none⟩) (v := .int .i64 0) (by simp) hb
        have f_R1_1 : w1.frozen? ⟨w.heap.size + 1, 1, none⟩ = false := (hb.frozen (p := ⟨w.heap.size + 1, 1, none⟩) (by simp; try omega)).trans (by simp)
        have c_R2_1 := cell_b (p := ⟨w.heap.size + 1, 2, none⟩) (v := .int .i64 0) (by simp) hb
        have f_R2_1 : w1.frozen? ⟨w.heap.size + 1, 2, none⟩ = false := (hb.frozen (p := ⟨w.heap.size + 1, 2, none⟩) (by simp; try omega)).trans (by simp)
        have c_R3_1 := cell_b (p := ⟨w.heap.size + 1, 3, none⟩) (v := .slice none 0 0) (by simp) hb
        have f_R3_1 : w1.frozen? ⟨w.heap.size + 1, 3, none⟩ = false := (hb.frozen (p := ⟨w.heap.size + 1, 3, none⟩) (by simp; try omega)).trans (by simp)
        have ac_A0_1 := fun o => cell_b c_A0_1 (below_alloc _ o)
        have ac_A1_1 := fun o => cell_b c_A1_1 (below_alloc _ o)
        have ac_A2_1 := fun o => cell_b c_A2_1 (below_alloc _ o)
        have ac_A3_1 := fun o => cell_b c_A3_1 (below_alloc _ o)
        have ac_R0_1 := fun o => cell_b c_R0_1 (below_alloc _ o)
        have ac_R1_1 := fun o => cell_b c_R1_1 (below_alloc _ o)
        have ac_R2_1 := fun o => cell_b c_R2_1 (below_alloc _ o)
        have ac_R3_1 := fun o => cell_b c_R3_1 (below_alloc _ o)
        have af_R0_1 := fun o => frz_b (cell_lt c_R0_1) f_R0_1 (below_alloc _ o)
        have af_R1_1 := fun o => frz_b (cell_lt c_R1_1) f_R1_1 (below_alloc _ o)
        have af_R2_1 := fun o => frz_b (cell_lt c_R2_1) f_R2_1 (below_alloc _ o)
        have af_R3_1 := fun o => frz_b (cell_lt c_R3_1) f_R3_1 (below_alloc _ o)
        clear hb D1 T0
        go_wp2_with fail
        refine bodyPost_ret (v := .tuple #[.agg #[.int .i64 0, .int .i64 0, .int .i64 0, .slice none 0 0], .bool false]) (by simp [results, Try.results30, go_sem, c_R0_1, c_R1_1, c_R2_1, c_R3_1]) rfl ⟨_, _, rfl, ow_nil _ _, ((((T1.out).setCell (by simp) _).setCell (by simp) _).setCell (by simp) _).setCell (by simp) _⟩
    · have e0 : failO s o k xs t = (0, 0, [], false) := by simp [failO, runs, h1]
      simp only [e0]
      clear e0
      clear hr hnc
      go_enter Try.func30, Try.ntmps30
      have T0 := Lib.hid (Below.refl w.heap.size w)
      go_wp2_with fail
      refine (I_OnceValid _ s o k _ xs (rd_alloc (rd_alloc (rd_below HR.out T0.out) _) _) (by omega)).mono ?_
      rintro e w1 ⟨rfl, hb⟩
      have D1 : Below w.heap.size w w1 := below_trans (below_alloc _ _) (below_trans (below_alloc _ _) (hb))
      have T1 := Lib.hid (below_trans T0.out D1)
      have z1 : w.heap.size + 2 ≤ w1.heap.size := (by have := hb.size; (try simp at this); omega)
      have c_A0_1 := cell_b (p := ⟨w.heap.size, 0, none⟩) (v := .int .i64 s) (by simp) hb
      have c_A1_1 := cell_b (p := ⟨w.heap.size, 1, none⟩) (v := .int .i64 o) (by simp) hb
      have c_A2_1 := cell_b (p := ⟨w.heap.size, 2, none⟩) (v := .int .i64 k) (by simp) hb
      have c_A3_1 := cell_b (p := ⟨w.heap.size, 3, none⟩) (v := .slice a xs.length cap) (by simp) hb
      have c_R0_1 := cell_b (p := ⟨w.heap.size + 1, 0, none⟩) (v := .int .i64 0) (by simp) hb
      have f_R0_1 : w1.frozen? ⟨w.heap.size + 1, 0, none⟩ = false := (hb.frozen (p := ⟨w.heap.size + 1, 0, none⟩) (by simp; try omega)).trans (by simp)
      have c_R1_1 := cell_b (p := ⟨w.heap.size + 1, 1, none⟩) (v := .int .i64 0) (by simp) hb
      have f_R1_1 : w1.frozen? ⟨w.heap.size + 1, 1, none⟩ = false := (hb.frozen (p := ⟨w.heap.size + 1, 1, none⟩) (by simp; try omega)).trans (by simp)
      have c_R2_1 := cell_b (p := ⟨w.heap.size + 1, 2, none⟩) (v := .int .i64 0) (by simp) hb
      have f_R2_1 : w1.frozen? ⟨w.heap.size + 1, 2, none⟩ = false := (hb.frozen (p := ⟨w.heap.size + 1, 2, none⟩) (by simp; try omega)).trans (by simp)
      have c_R3_1 := cell_b (p := ⟨w.heap.size + 1, 3, none⟩) (v := .slice none 0 0) (by simp) hb
      have f_R3_1 : w1.frozen? ⟨w.heap.size + 1, 3, none⟩ = false := (hb.frozen (p := ⟨w.heap.size + 1, 3, none⟩) (by simp; try omega)).trans (by simp)
      have ac_A0_1 := fun o => cell_b c_A0_1 (below_alloc _ o)
      have ac_A1_1 := fun o => cell_b c_A1_1 (below_alloc _ o)
      have ac_A2_1 := fun o => cell_b c_A2_1 (below_alloc _ o)
      have ac_A3_1 := fun o => cell_b c_A3_1 (below_alloc _ o)
      have ac_R0_1 := fun o => cell_b c_R0_1 (below_alloc _ o)
      have ac_R1_1 := fun o => cell_b c_R1_1 (below_alloc _ o)
      have ac_R2_1 := fun o => cell_b c_R2_1 (below_alloc _ o)
      have ac_R3_1 := fun o => cell_b c_R3_1 (below_alloc _ o)
      have af_R0_1 := fun o => frz_b (cell_lt c_R0_1) f_R0_1 (below_alloc _ o)
      have af_R1_1 := fun o => frz_b (cell_lt c_R1_1) f_R1_1 (below_alloc _ o)
      have af_R2_1 := fun o => frz_b (cell_lt c_R2_1) f_R2_1 (below_alloc _ o)
      have af_R3_1 := fun o => frz_b (cell_lt c_R3_1) f_R3_1 (below_alloc _ o)
      clear hb D1 T0
      go_wp2_with fail
      refine bodyPost_ret (v := .tuple #[.agg #[.int .i64 0, .int .i64 0, .int .i64 0, .slice none 0 0], .bool false]) (by simp [results, Try.results30, go_sem, c_R0_1, c_R1_1, c_R2_1, c_R3_1]) rfl ⟨_, _, rfl, ow_nil _ _, ((((T1.out).setCell (by simp) _).setCell (by simp) _).setCell (by simp) _).setCell (by simp) _⟩
  · have hv' : oval s o k xs = false := by simpa using hv
    clear hv
    have e0 : failO s o k xs t = (0, 0, [], false) := by simp [failO, runs, hv']
    simp only [e0]
    clear e0
    clear hr hnc
    go_enter Try.func30, Try.ntmps30
    have T0 := Lib.hid (Below.refl w.heap.size w)
    go_wp2_with fail
    refine (I_OnceValid _ s o k _ xs (rd_alloc (rd_alloc (rd_below HR.out T0.out) _) _) (by omega)).mono ?_
    rintro e w1 ⟨rfl, hb⟩
    have D1 : Below w.heap.size w w1 := below_trans (below_alloc _ _) (below_trans (below_alloc _ _) (hb))
    have T1 := Lib.hid (below_trans T0.out D1)
    have z1 : w.heap.size + 2 ≤ w1.heap.size := (by have := hb.size; (try simp at this); omega)
    have c_A0_1 := cell_b (p := ⟨w.heap.size, 0, none⟩) (v := .int .i64 s) (by simp) hb
    have c_A1_1 := cell_b (p := ⟨w.heap.size, 1, none⟩) (v := .int .i64 o) (by simp) hb
    have c_A2_1 := cell_b (p := ⟨w.heap.size, 2, none⟩) (v := .int .i64 k) (by simp) hb
    have c_A3_1 := cell_b (p := ⟨w.heap.size, 3, none⟩) (v := .slice a xs.length cap) (by simp) hb
    have c_R0_1 := cell_b (p := ⟨w.heap.size + 1, 0, none⟩) (v := .int .i64 0) (by simp) hb
    have f_R0_1 : w1.frozen? ⟨w.heap.size + 1, 0, none⟩ = false := (hb.frozen (p := ⟨w.heap.size + 1, 0, none⟩) (by simp; try omega)).trans (by simp)
    have c_R1_1 := cell_b (p := ⟨w.heap.size + 1, 1, none⟩) (v := .int .i64 0) (by simp) hb
    have f_R1_1 : w1.frozen? ⟨w.heap.size + 1, 1, none⟩ = false := (hb.frozen (p := ⟨w.heap.size + 1, 1, none⟩) (by simp; try omega)).trans (by simp)
    have c_R2_1 := cell_b (p := ⟨w.heap.size + 1, 2, none⟩) (v := .int .i64 0) (by simp) hb
    have f_R2_1 : w1.frozen? ⟨w.heap.size + 1, 2, none⟩ = false := (hb.frozen (p := ⟨w.heap.size + 1, 2, none⟩) (by simp; try omega)).trans (by simp)
    have c_R3_1 := cell_b (p := ⟨w.heap.size + 1, 3, none⟩) (v := .slice none 0 0) (by simp) hb
    have f_R3_1 : w1.frozen? ⟨w.heap.size + 1, 3, none⟩ = false := (hb.frozen (p := ⟨w.heap.size + 1, 3, none⟩) (by simp; try omega)).trans (by simp)
    have ac_A0_1 := fun o => cell_b c_A0_1 (below_alloc _ o)
    have ac_A1_1 := fun o => cell_b c_A1_1 (below_alloc _ o)
    have ac_A2_1 := fun o => cell_b c_A2_1 (below_alloc _ o)
    have ac_A3_1 := fun o => cell_b c_A3_1 (below_alloc _ o)
    have ac_R0_1 := fun o => cell_b c_R0_1 (below_alloc _ o)
    have ac_R1_1 := fun o => cell_b c_R1_1 (below_alloc _ o)
    have ac_R2_1 := fun o => cell_b c_R2_1 (below_alloc _ o)
    have ac_R3_1 := fun o => cell_b c_R3_1 (below_alloc _ o)
    have af_R0_1 := fun o => frz_b (cell_lt c_R0_1) f_R0_1 (below_alloc _ o)
    have af_R1_1 := fun o => frz_b (cell_lt c_R1_1) f_R1_1 (below_alloc _ o)
    have af_R2_1 := fun o => frz_b (cell_lt c_R2_1) f_R2_1 (below_alloc _ o)
    have af_R3_1 := fun o => frz_b (cell_lt c_R3_1) f_R3_1 (below_alloc _ o)
    clear hb D1 T0
    go_wp2_with fail
    refine bodyPost_ret (v := .tuple #[.agg #[.int .i64 0, .int .i64 0, .int .i64 0, .slice none 0 0], .bool false]) (by simp [results, Try.results30, go_sem, c_R0_1, c_R1_1, c_R2_1, c_R3_1]) rfl ⟨_, _, rfl, ow_nil _ _, ((((T1.out).setCell (by simp) _).setCell (by simp) _).setCell (by simp) _).setCell (by simp) _⟩

set_option maxHeartbeats 4000000 in
set_option maxRecDepth 100000 in
theorem S_FailOnce (w : World) (s o k : Int) (v : Value) (xs : List Int) (t : Int) (hr : Rd w v xs) (hl : xs.length ≤ 4294967296) :
    Calls Try.prog 31 #[.agg #[.int .i64 s, .int .i64 o, .int .i64 k, v], .int .i64 t] w fun e w' => ∃ a cap, e = .returned (.tuple #[.agg #[.int .i64 (failO s o k xs t).1, .int .i64 (failO s o k xs t).2.1, .int .i64 0, .slice a (failO s o k xs t).2.2.1.length cap], .bool (failO s o k xs t).2.2.2]) ∧
      Ow w' w.heap.size (.slice a (failO s o k xs t).2.2.1.length cap) (failO s o k xs t).2.2.1 ∧ Below w.heap.size w w' := by
  obtain ⟨i0, hi, hz0, hz1, hz2⟩ := info_parts info3
  have HR := Lib.hid hr
  obtain ⟨a, cap, rfl, hcap, hnc, hr⟩ := hr
  by_cases hv : runs s o k xs t = true
  · have hl6 := runs_len hv
    rcases xs with _ | ⟨x, ys⟩
    · have e0 : failO s o k [] t = (0, 0, [], true) := by simp [failO, hv]
      simp only [e0]
      clear e0
      clear hr hnc
      go_enter Try.func31, Try.ntmps31
      have T0 := Lib.hid (Below.refl w.heap.size w)
      go_wp2_with fail
      refine (S_l2Runs _ s o k _ [] t (rd_alloc (rd_alloc (rd_below HR.out T0.out) _) _) (by omega)).mono ?_
      rintro e w1 ⟨rfl, hb⟩
      have D1 : Below w.heap.size w w1 := below_trans (below_alloc _ _) (below_trans (below_alloc _ _) (hb))
      have T1 := Lib.hid (below_trans T0.out D1)
      have z1 : w.heap.size + 2 ≤ w1.heap.size := (by have := hb.size; (try simp at this); omega)
      have c_A0_1 := cell_b (p := ⟨w.heap.size, 0, none⟩) (v := .int .i64 s) (by simp) hb
      have c_A1_1 := cell_b (p := ⟨w.heap.size, 1, none⟩) (v := .int .i64 o) (by simp) hb
      have c_A2_1 := cell_b (p := ⟨w.heap.size, 2, none⟩) (v := .int .i64 k) (by simp) hb
      have c_A3_1 := cell_b (p := ⟨w.heap.size, 3, none⟩) (v := .slice a 0 cap) (by simp) hb
      have c_R0_1 := cell_b (p := ⟨w.heap.size + 1, 0, none⟩) (v := .int .i64 0) (by simp) hb
      have f_R0_1 : w1.frozen? ⟨w.heap.size + 1, 0, none⟩ = false := (hb.frozen (p := ⟨w.heap.size + 1, 0, none⟩) (by simp; try omega)).trans (by simp)
      have c_R1_1 := cell_b (p := ⟨w.heap.size + 1, 1, none⟩) (v := .int .i64 0) (by simp) hb
      have f_R1_1 : w1.frozen? ⟨w.heap.size + 1, 1, none⟩ = false := (hb.frozen (p := ⟨w.heap.size + 1, 1, none⟩) (by simp; try omega)).trans (by simp)
      have c_R2_1 := cell_b (p := ⟨w.heap.size + 1, 2, none⟩) (v := .int .i64 0) (by simp) hb
      have f_R2_1 : w1.frozen? ⟨w.heap.size + 1, 2, none⟩ = false := (hb.frozen (p := ⟨w.heap.size + 1, 2, none⟩) (by simp; try omega)).trans (by simp)
      have c_R3_1 := cell_b (p := ⟨w.heap.size + 1, 3, none⟩) (v := .slice none 0 0) (by simp) hb
      have f_R3_1 : w1.frozen? ⟨w.heap.size + 1, 3, none⟩ = false := (hb.frozen (p := ⟨w.heap.size + 1, 3, none⟩) (by simp; try omega)).trans (by simp)
      have ac_A0_1 := fun o => cell_b c_A0_1 (below_alloc _ o)
      have ac_A1_1 := fun o => cell_b c_A1_1 (below_alloc _ o)
      have ac_A2_1 := fun o => cell_b c_A2_1 (below_alloc _ o)
      have ac_A3_1 := fun o => cell_b c_A3_1 (below_alloc _ o)
      have ac_R0_1 := fun o => cell_b c_R0_1 (below_alloc _ o)
      have ac_R1_1 := fun o => cell_b c_R1_1 (below_alloc _ o)
      have ac_R2_1 := fun o => cell_b c_R2_1 (below_alloc _ o)
      have ac_R3_1 := fun o => cell_b c_R3_1 (below_alloc _ o)
      have af_R0_1 := fun o => frz_b (cell_lt c_R0_1) f_R0_1 (below_alloc _ o)
      have af_R1_1 := fun o => frz_b (cell_lt c_R1_1) f_R1_1 (below_alloc _ o)
      have af_R2_1 := fun o => frz_b (cell_lt c_R2_1) f_R2_1 (below_alloc _ o)
      have af_R3_1 := fun o => frz_b (cell_lt c_R3_1) f_R3_1 (below_alloc _ o)
      clear hb D1 T0
      go_wp2_with fail
      refine bodyPost_ret (v := .tuple #[.agg #[.int .i64 0, .int .i64 0, .int .i64 0, .slice none 0 0], .bool true]) (by simp [results, Try.results31, go_sem, c_R0_1, c_R1_1, c_R2_1, c_R3_1]) rfl ⟨_, _, rfl, ow_nil _ _, ((((T1.out).setCell (by simp) _).setCell (by simp) _).setCell (by simp) _).setCell (by simp) _⟩
    · rcases hr with hr | ⟨gb, off, rfl, hg, hc⟩
      · simp at hr
      have c_E0_0 := hc 0 (by simp)
      simp only [Nat.add_zero, List.getD_cons_zero] at c_E0_0
      have HC := Lib.hid hc
      clear hc hnc
      by_cases hc1 : cap = 1
      · subst hc1
        obtain rfl : ys = [] := by simp at hcap; exact hcap
        have e0 : failO s o k [x] t = (1, x, [], true) := by simp [failO, hv]
        simp only [e0]
        clear e0
        have HT := Lib.hid (rd_tail (w := w) (off := off) (cap := 1) (x := x) (ys := []) hg hcap HC.out off (.inr rfl))
        go_enter Try.func31, Try.ntmps31
        have T0 := Lib.hid (Below.refl w.heap.size w)
        go_wp2_with fail
        refine (S_l2Runs _ s o k _ [x] t (rd_alloc (rd_alloc (rd_below HR.out T0.out) _) _) (by omega)).mono ?_
        rintro e w1 ⟨rfl, hb⟩
        have D1 : Below w.heap.size w w1 := below_trans (below_alloc _ _) (below_trans (below_alloc _ _) (hb))
        have c_E0_1 := cell_b c_E0_0 D1
        have T1 := Lib.hid (below_trans T0.out D1)
        have z1 : w.heap.size + 2 ≤ w1.heap.size := (by have := hb.size; (try simp at this); omega)
        have c_A0_1 := cell_b (p := ⟨w.heap.size, 0, none⟩) (v := .int .i64 s) (by simp) hb
        have c_A1_1 := cell_b (p := ⟨w.heap.size, 1, none⟩) (v := .int .i64 o) (by simp) hb
        have c_A2_1 := cell_b (p := ⟨w.heap.size, 2, none⟩) (v := .int .i64 k) (by simp) hb
        have c_A3_1 := cell_b (p := ⟨w.heap.size, 3, none⟩) (v := .slice (some ⟨gb, off, none⟩) 1 1) (by simp) hb
        have c_R0_1 := cell_b (p := ⟨w.heap.size + 1, 0, none⟩) (v := .int .i64 0) (by simp) hb
        have f_R0_1 : w1.frozen? ⟨w.heap.size + 1, 0, none⟩ = false := (hb.frozen (p := ⟨w.heap.size + 1, 0, none⟩) (by simp; try omega)).trans (by simp)
        have c_R1_1 := cell_b (p := ⟨w.heap.size + 1, 1, none⟩) (v := .int .i64 0) (by simp) hb
        have f_R1_1 : w1.frozen? ⟨w.heap.size + 1, 1, none⟩ = false := (hb.frozen (p := ⟨w.heap.size + 1, 1, none⟩) (by simp; try omega)).trans (by simp)
        have c_R2_1 := cell_b (p := ⟨w.heap.size + 1, 2, none⟩) (v := .int .i64 0) (by simp) hb
        have f_R2_1 : w1.frozen? ⟨w.heap.size + 1, 2, none⟩ = false := (hb.frozen (p := ⟨w.heap.size + 1, 2, none⟩) (by simp; try omega)).trans (by simp)
        have c_R3_1 := cell_b (p := ⟨w.heap.size + 1, 3, none⟩) (v := .slice none 0 0) (by simp) hb
        have f_R3_1 : w1.frozen? ⟨w.heap.size + 1, 3, none⟩ = false := (hb.frozen (p := ⟨w.heap.size + 1, 3, none⟩) (by simp; try omega)).trans (by simp)
        have ac_E0_1 := fun o => cell_b c_E0_1 (below_alloc _ o)
        have ac_A0_1 := fun o => cell_b c_A0_1 (below_alloc _ o)
        have ac_A1_1 := fun o => cell_b c_A1_1 (below_alloc _ o)
        have ac_A2_1 := fun o => cell_b c_A2_1 (below_alloc _ o)
        have ac_A3_1 := fun o => cell_b c_A3_1 (below_alloc _ o)
        have ac_R0_1 := fun o => cell_b c_R0_1 (below_alloc _ o)
        have ac_R1_1 := fun o => cell_b c_R1_1 (below_alloc _ o)
        have ac_R2_1 := fun o => cell_b c_R2_1 (below_alloc _ o)
        have ac_R3_1 := fun o => cell_b c_R3_1 (below_alloc _ o)
        have af_R0_1 := fun o => frz_b (cell_lt c_R0_1) f_R0_1 (below_alloc _ o)
        have af_R1_1 := fun o => frz_b (cell_lt c_R1_1) f_R1_1 (below_alloc _ o)
        have af_R2_1 := fun o => frz_b (cell_lt c_R2_1) f_R2_1 (below_alloc _ o)
        have af_R3_1 := fun o => frz_b (cell_lt c_R3_1) f_R3_1 (below_alloc _ o)
        clear c_E0_0 hb D1 T0
        have i5 : ¬ gb = w.heap.size + 1 := by omega
        have i6 : ¬ w.heap.size + 1 = gb := by omega
        have HT1 := Lib.hid (rd_below HT.out T1.out)
        have hP : Below w1.heap.size w1 ((w1.alloc (.cells #[] 3)).drew) := (below_trans (below_alloc _ _) (drew_below _))
        have l_E0 := cell_b c_E0_1 hP
        have l_A3 := cell_b c_A3_1 hP
        have l_R0 := cell_b c_R0_1 hP
        have l_R1 := cell_b c_R1_1 hP
        have l_R2 := cell_b c_R2_1 hP
        have l_R3 := cell_b c_R3_1 hP
        have m_R0 := frz_b (cell_lt c_R0_1) f_R0_1 hP
        have m_R1 := frz_b (cell_lt c_R1_1) f_R1_1 hP
        have m_R2 := frz_b (cell_lt c_R2_1) f_R2_1 hP
        have m_R3 := frz_b (cell_lt c_R3_1) f_R3_1 hP
        have n_A3 := cell_b c_A3_1 (drew_below _)
        have n_E0 := cell_b c_E0_1 (drew_below _)
        have hPs := hP.size
        have HT2 := Lib.hid (rd_below HT1.out hP)
        go_wp2_with fail
        go_region_held3 (fun w' => w'.cell? ⟨w.heap.size, 3, none⟩ = some (.slice (some ⟨gb, off, none⟩) 1 1) ∧ w'.cell? ⟨gb, off, none⟩ = some (.int .i64 x)) (first | with_reducible exact ⟨c_A3_1, c_E0_1⟩ | with_reducible exact ⟨ac_A3_1 _, ac_E0_1 _⟩ | with_reducible exact ⟨l_A3, l_E0⟩ | with_reducible exact ⟨n_A3, n_E0⟩ | with_reducible exact ⟨c_A3_2, c_E0_2⟩ | go_keep)
          (first | (refine step_append_rd (w := (w1.alloc (.cells #[] 3)).drew) rfl _ _ 23 rfl (w1.heap.size) i0 Try.underlying23 hi hz0 hz1 hz2 (.slice (some ⟨w1.heap.size, 0, none⟩) 0 0) 0 [] rfl (own_below (World.ownsRow_made (base := w1.heap.size) (e := 3) (size := 1) w1 #[] 0 (Nat.le_refl _) (by unfold maxLen; omega) rfl) (drew_below _)) _ _ _ ([]) rfl HT2.out rfl (by first | (unfold maxLen; simp; done) | (unfold maxLen; simp at hl6 ⊢; omega) | (unfold maxLen; omega)) (by first | (simp; done) | (simp at hl6 ⊢; omega) | omega) hPs ?_; intro v2 w2 hown hgrow hloc; have hd : w2.ownsRow w1.heap.size 3 1 v2 ([]).length (ints ([])) := (by rw [Nat.zero_add, List.nil_append] at hown; exact hown); obtain ⟨a2, cap2, hv2⟩ := own_shape hd; subst hv2; have c_E0_2 := cell_gr l_E0 hgrow (fun g1 h1 => by simp only [Value.ownBlock, Option.some.injEq] at h1; show gb ≠ _; omega); have c_A3_2 := cell_gr l_A3 hgrow (fun g1 h1 => by simp only [Value.ownBlock, Option.some.injEq] at h1; show w.heap.size ≠ _; omega); have c_R0_2 := cell_gr l_R0 hgrow (fun g1 h1 => by simp only [Value.ownBlock, Option.some.injEq] at h1; show w.heap.size + 1 ≠ _; omega); have c_R1_2 := cell_gr l_R1 hgrow (fun g1 h1 => by simp only [Value.ownBlock, Option.some.injEq] at h1; show w.heap.size + 1 ≠ _; omega); have c_R2_2 := cell_gr l_R2 hgrow (fun g1 h1 => by simp only [Value.ownBlock, Option.some.injEq] at h1; show w.heap.size + 1 ≠ _; omega); have c_R3_2 := cell_gr l_R3 hgrow (fun g1 h1 => by simp only [Value.ownBlock, Option.some.injEq] at h1; show w.heap.size + 1 ≠ _; omega); have f_R0_2 := (frz_gr (p := ⟨w.heap.size + 1, 0, none⟩) (cell_lt l_R0) hgrow (fun g1 h1 => by simp only [Value.ownBlock, Option.some.injEq] at h1; show w.heap.size + 1 ≠ _; omega)).trans m_R0; have f_R1_2 := (frz_gr (p := ⟨w.heap.size + 1, 1, none⟩) (cell_lt l_R1) hgrow (fun g1 h1 => by simp only [Value.ownBlock, Option.some.injEq] at h1; show w.heap.size + 1 ≠ _; omega)).trans m_R1; have f_R2_2 := (frz_gr (p := ⟨w.heap.size + 1, 2, none⟩) (cell_lt l_R2) hgrow (fun g1 h1 => by simp only [Value.ownBlock, Option.some.injEq] at h1; show w.heap.size + 1 ≠ _; omega)).trans m_R2; have f_R3_2 := (frz_gr (p := ⟨w.heap.size + 1, 3, none⟩) (cell_lt l_R3) hgrow (fun g1 h1 => by simp only [Value.ownBlock, Option.some.injEq] at h1; show w.heap.size + 1 ≠ _; omega)).trans m_R3; have o_d_2 := Lib.hid hd; have T2 := Lib.hid (below_gr (T1.out.trans (hP.mono T1.out.size)) (by have h9 := T1.out.size; omega) hgrow (fun g1 h1 => by have h9 := T1.out.size; simp only [Value.ownBlock, Option.some.injEq] at h1; omega)); have z2 : w1.heap.size + 1 ≤ w2.heap.size := Nat.le_trans (show w1.heap.size + 1 ≤ ((w1.alloc (.cells #[] 3)).drew).heap.size from Nat.le_of_eq (World.size_alloc w1 _).symm) hgrow.size; clear hown hgrow hloc hd))
        all_goals go_wp2_with fail
        have O2 := o_d_2.out
        refine bodyPost_ret (v := .tuple #[.agg #[.int .i64 1, .int .i64 x, .int .i64 0, .slice a2 0 cap2], .bool true]) (by simp [results, Try.results31, go_sem, c_R0_2, c_R1_2, c_R2_2, c_R3_2]) rfl ⟨_, _, rfl, ?_, ((((T2.out).setCell (by simp) _).setCell (by simp) _).setCell (by simp) _).setCell (by simp) _⟩
        refine own_base (b := w1.heap.size) ?_ (by omega)
        repeat (first | exact O2 | refine ownsRow_setCell_below ?_ (by show _ + 1 < _; omega) _)
      · have e0 : failO s o k (x :: ys) t = (1, x, ys, true) := by simp [failO, hv]
        simp only [e0]
        clear e0
        have HT := Lib.hid (rd_tail (w := w) (off := off) (cap := cap) (x := x) (ys := ys) hg hcap HC.out (off + 1) (.inl rfl))
        go_enter Try.func31, Try.ntmps31
        have T0 := Lib.hid (Below.refl w.heap.size w)
        go_wp2_with fail
        refine (S_l2Runs _ s o k _ (x :: ys) t (rd_alloc (rd_alloc (rd_below HR.out T0.out) _) _) (by omega)).mono ?_
        rintro e w1 ⟨rfl, hb⟩
        have D1 : Below w.heap.size w w1 := below_trans (below_alloc _ _) (below_trans (below_alloc _ _) (hb))
        have c_E0_1 := cell_b c_E0_0 D1
        have T1 := Lib.hid (below_trans T0.out D1)
        have z1 : w.heap.size + 2 ≤ w1.heap.size := (by have := hb.size; (try simp at this); omega)
        have c_A0_1 := cell_b (p := ⟨w.heap.size, 0, none⟩) (v := .int .i64 s) (by simp) hb
        have c_A1_1 := cell_b (p := ⟨w.heap.size, 1, none⟩) (v := .int .i64 o) (by simp) hb
        have c_A2_1 := cell_b (p := ⟨w.heap.size, 2, none⟩) (v := .int .i64 k) (by simp) hb
        have c_A3_1 := cell_b (p := ⟨w.heap.size, 3, none⟩) (v := .slice (some ⟨gb, off, none⟩) (ys.length + 1) cap) (by simp) hb
        have c_R0_1 := cell_b (p := ⟨w.heap.size + 1, 0, none⟩) (v := .int .i64 0) (by simp) hb
        have f_R0_1 : w1.frozen? ⟨w.heap.size + 1, 0, none⟩ = false := (hb.frozen (p := ⟨w.heap.size + 1, 0, none⟩) (by simp; try omega)).trans (by simp)
        have c_R1_1 := cell_b (p := ⟨w.heap.size + 1, 1, none⟩) (v := .int .i64 0) (by simp) hb
        have f_R1_1 : w1.frozen? ⟨w.heap.size + 1, 1, none⟩ = false := (hb.frozen (p := ⟨w.heap.size + 1, 1, none⟩) (by simp; try omega)).trans (by simp)
        have c_R2_1 := cell_b (p := ⟨w.heap.size + 1, 2, none⟩) (v := .int .i64 0) (by simp) hb
        have f_R2_1 : w1.frozen? ⟨w.heap.size + 1, 2, none⟩ = false := (hb.frozen (p := ⟨w.heap.size + 1, 2, none⟩) (by simp; try omega)).trans (by simp)
        have c_R3_1 := cell_b (p := ⟨w.heap.size + 1, 3, none⟩) (v := .slice none 0 0) (by simp) hb
        have f_R3_1 : w1.frozen? ⟨w.heap.size + 1, 3, none⟩ = false := (hb.frozen (p := ⟨w.heap.size + 1, 3, none⟩) (by simp; try omega)).trans (by simp)
        have ac_E0_1 := fun o => cell_b c_E0_1 (below_alloc _ o)
        have ac_A0_1 := fun o => cell_b c_A0_1 (below_alloc _ o)
        have ac_A1_1 := fun o => cell_b c_A1_1 (below_alloc _ o)
        have ac_A2_1 := fun o => cell_b c_A2_1 (below_alloc _ o)
        have ac_A3_1 := fun o => cell_b c_A3_1 (below_alloc _ o)
        have ac_R0_1 := fun o => cell_b c_R0_1 (below_alloc _ o)
        have ac_R1_1 := fun o => cell_b c_R1_1 (below_alloc _ o)
        have ac_R2_1 := fun o => cell_b c_R2_1 (below_alloc _ o)
        have ac_R3_1 := fun o => cell_b c_R3_1 (below_alloc _ o)
        have af_R0_1 := fun o => frz_b (cell_lt c_R0_1) f_R0_1 (below_alloc _ o)
        have af_R1_1 := fun o => frz_b (cell_lt c_R1_1) f_R1_1 (below_alloc _ o)
        have af_R2_1 := fun o => frz_b (cell_lt c_R2_1) f_R2_1 (below_alloc _ o)
        have af_R3_1 := fun o => frz_b (cell_lt c_R3_1) f_R3_1 (below_alloc _ o)
        clear c_E0_0 hb D1 T0
        have i1 : (0 : Int) ≤ (ys.length : Int) := by omega
        have i2 : (ys.length : Int) + 1 ≤ (cap : Int) := by simp at hcap; omega
        have i3 : ys.length + 1 ≤ cap := by simp at hcap; omega
        have i4 : (1 : Int) ≤ (ys.length : Int) + 1 := by omega
        have i5 : ¬ gb = w.heap.size + 1 := by omega
        have i6 : ¬ w.heap.size + 1 = gb := by omega
        have HT1 := Lib.hid (rd_below HT.out T1.out)
        have hP : Below w1.heap.size w1 ((w1.alloc (.cells #[] 3)).drew) := (below_trans (below_alloc _ _) (drew_below _))
        have l_E0 := cell_b c_E0_1 hP
        have l_A3 := cell_b c_A3_1 hP
        have l_R0 := cell_b c_R0_1 hP
        have l_R1 := cell_b c_R1_1 hP
        have l_R2 := cell_b c_R2_1 hP
        have l_R3 := cell_b c_R3_1 hP
        have m_R0 := frz_b (cell_lt c_R0_1) f_R0_1 hP
        have m_R1 := frz_b (cell_lt c_R1_1) f_R1_1 hP
        have m_R2 := frz_b (cell_lt c_R2_1) f_R2_1 hP
        have m_R3 := frz_b (cell_lt c_R3_1) f_R3_1 hP
        have n_A3 := cell_b c_A3_1 (drew_below _)
        have n_E0 := cell_b c_E0_1 (drew_below _)
        have hPs := hP.size
        have HT2 := Lib.hid (rd_below HT1.out hP)
        go_wp2_with fail
        go_region_held3 (fun w' => w'.cell? ⟨w.heap.size, 3, none⟩ = some (.slice (some ⟨gb, off, none⟩) (ys.length + 1) cap) ∧ w'.cell? ⟨gb, off, none⟩ = some (.int .i64 x)) (first | with_reducible exact ⟨c_A3_1, c_E0_1⟩ | with_reducible exact ⟨ac_A3_1 _, ac_E0_1 _⟩ | with_reducible exact ⟨l_A3, l_E0⟩ | with_reducible exact ⟨n_A3, n_E0⟩ | with_reducible exact ⟨c_A3_2, c_E0_2⟩ | go_keep)
          (first | (refine step_append_rd (w := (w1.alloc (.cells #[] 3)).drew) rfl _ _ 23 rfl (w1.heap.size) i0 Try.underlying23 hi hz0 hz1 hz2 (.slice (some ⟨w1.heap.size, 0, none⟩) 0 0) 0 [] rfl (own_below (World.ownsRow_made (base := w1.heap.size) (e := 3) (size := 1) w1 #[] 0 (Nat.le_refl _) (by unfold maxLen; omega) rfl) (drew_below _)) _ _ _ (ys) rfl HT2.out rfl (by first | (unfold maxLen; simp; done) | (unfold maxLen; simp at hl6 ⊢; omega) | (unfold maxLen; omega)) (by first | (simp; done) | (simp at hl6 ⊢; omega) | omega) hPs ?_; intro v2 w2 hown hgrow hloc; have hd : w2.ownsRow w1.heap.size 3 1 v2 (ys).length (ints (ys)) := (by rw [Nat.zero_add, List.nil_append] at hown; exact hown); obtain ⟨a2, cap2, hv2⟩ := own_shape hd; subst hv2; have c_E0_2 := cell_gr l_E0 hgrow (fun g1 h1 => by simp only [Value.ownBlock, Option.some.injEq] at h1; show gb ≠ _; omega); have c_A3_2 := cell_gr l_A3 hgrow (fun g1 h1 => by simp only [Value.ownBlock, Option.some.injEq] at h1; show w.heap.size ≠ _; omega); have c_R0_2 := cell_gr l_R0 hgrow (fun g1 h1 => by simp only [Value.ownBlock, Option.some.injEq] at h1; show w.heap.size + 1 ≠ _; omega); have c_R1_2 := cell_gr l_R1 hgrow (fun g1 h1 => by simp only [Value.ownBlock, Option.some.injEq] at h1; show w.heap.size + 1 ≠ _; omega); have c_R2_2 := cell_gr l_R2 hgrow (fun g1 h1 => by simp only [Value.ownBlock, Option.some.injEq] at h1; show w.heap.size + 1 ≠ _; omega); have c_R3_2 := cell_gr l_R3 hgrow (fun g1 h1 => by simp only [Value.ownBlock, Option.some.injEq] at h1; show w.heap.size + 1 ≠ _; omega); have f_R0_2 := (frz_gr (p := ⟨w.heap.size + 1, 0, none⟩) (cell_lt l_R0) hgrow (fun g1 h1 => by simp only [Value.ownBlock, Option.some.injEq] at h1; show w.heap.size + 1 ≠ _; omega)).trans m_R0; have f_R1_2 := (frz_gr (p := ⟨w.heap.size + 1, 1, none⟩) (cell_lt l_R1) hgrow (fun g1 h1 => by simp only [Value.ownBlock, Option.some.injEq] at h1; show w.heap.size + 1 ≠ _; omega)).trans m_R1; have f_R2_2 := (frz_gr (p := ⟨w.heap.size + 1, 2, none⟩) (cell_lt l_R2) hgrow (fun g1 h1 => by simp only [Value.ownBlock, Option.some.injEq] at h1; show w.heap.size + 1 ≠ _; omega)).trans m_R2; have f_R3_2 := (frz_gr (p := ⟨w.heap.size + 1, 3, none⟩) (cell_lt l_R3) hgrow (fun g1 h1 => by simp only [Value.ownBlock, Option.some.injEq] at h1; show w.heap.size + 1 ≠ _; omega)).trans m_R3; have o_d_2 := Lib.hid hd; have T2 := Lib.hid (below_gr (T1.out.trans (hP.mono T1.out.size)) (by have h9 := T1.out.size; omega) hgrow (fun g1 h1 => by have h9 := T1.out.size; simp only [Value.ownBlock, Option.some.injEq] at h1; omega)); have z2 : w1.heap.size + 1 ≤ w2.heap.size := Nat.le_trans (show w1.heap.size + 1 ≤ ((w1.alloc (.cells #[] 3)).drew).heap.size from Nat.le_of_eq (World.size_alloc w1 _).symm) hgrow.size; clear hown hgrow hloc hd))
        all_goals go_wp2_with fail
        have O2 := o_d_2.out
        refine bodyPost_ret (v := .tuple #[.agg #[.int .i64 1, .int .i64 x, .int .i64 0, .slice a2 ys.length cap2], .bool true]) (by simp [results, Try.results31, go_sem, c_R0_2, c_R1_2, c_R2_2, c_R3_2]) rfl ⟨_, _, rfl, ?_, ((((T2.out).setCell (by simp) _).setCell (by simp) _).setCell (by simp) _).setCell (by simp) _⟩
        refine own_base (b := w1.heap.size) ?_ (by omega)
        repeat (first | exact O2 | refine ownsRow_setCell_below ?_ (by show _ + 1 < _; omega) _)
  · have hv' : runs s o k xs t = false := by simpa using hv
    clear hv
    have e0 : failO s o k xs t = (0, 0, [], false) := by simp [failO, hv']
    simp only [e0]
    clear e0
    clear hr hnc
    go_enter Try.func31, Try.ntmps31
    have T0 := Lib.hid (Below.refl w.heap.size w)
    go_wp2_with fail
    refine (S_l2Runs _ s o k _ xs t (rd_alloc (rd_alloc (rd_below HR.out T0.out) _) _) (by omega)).mono ?_
    rintro e w1 ⟨rfl, hb⟩
    have D1 : Below w.heap.size w w1 := below_trans (below_alloc _ _) (below_trans (below_alloc _ _) (hb))
    have T1 := Lib.hid (below_trans T0.out D1)
    have z1 : w.heap.size + 2 ≤ w1.heap.size := (by have := hb.size; (try simp at this); omega)
    have c_A0_1 := cell_b (p := ⟨w.heap.size, 0, none⟩) (v := .int .i64 s) (by simp) hb
    have c_A1_1 := cell_b (p := ⟨w.heap.size, 1, none⟩) (v := .int .i64 o) (by simp) hb
    have c_A2_1 := cell_b (p := ⟨w.heap.size, 2, none⟩) (v := .int .i64 k) (by simp) hb
    have c_A3_1 := cell_b (p := ⟨w.heap.size, 3, none⟩) (v := .slice a xs.length cap) (by simp) hb
    have c_R0_1 := cell_b (p := ⟨w.heap.size + 1, 0, none⟩) (v := .int .i64 0) (by simp) hb
    have f_R0_1 : w1.frozen? ⟨w.heap.size + 1, 0, none⟩ = false := (hb.frozen (p := ⟨w.heap.size + 1, 0, none⟩) (by simp; try omega)).trans (by simp)
    have c_R1_1 := cell_b (p := ⟨w.heap.size + 1, 1, none⟩) (v := .int .i64 0) (by simp) hb
    have f_R1_1 : w1.frozen? ⟨w.heap.size + 1, 1, none⟩ = false := (hb.frozen (p := ⟨w.heap.size + 1, 1, none⟩) (by simp; try omega)).trans (by simp)
    have c_R2_1 := cell_b (p := ⟨w.heap.size + 1, 2, none⟩) (v := .int .i64 0) (by simp) hb
    have f_R2_1 : w1.frozen? ⟨w.heap.size + 1, 2, none⟩ = false := (hb.frozen (p := ⟨w.heap.size + 1, 2, none⟩) (by simp; try omega)).trans (by simp)
    have c_R3_1 := cell_b (p := ⟨w.heap.size + 1, 3, none⟩) (v := .slice none 0 0) (by simp) hb
    have f_R3_1 : w1.frozen? ⟨w.heap.size + 1, 3, none⟩ = false := (hb.frozen (p := ⟨w.heap.size + 1, 3, none⟩) (by simp; try omega)).trans (by simp)
    have ac_A0_1 := fun o => cell_b c_A0_1 (below_alloc _ o)
    have ac_A1_1 := fun o => cell_b c_A1_1 (below_alloc _ o)
    have ac_A2_1 := fun o => cell_b c_A2_1 (below_alloc _ o)
    have ac_A3_1 := fun o => cell_b c_A3_1 (below_alloc _ o)
    have ac_R0_1 := fun o => cell_b c_R0_1 (below_alloc _ o)
    have ac_R1_1 := fun o => cell_b c_R1_1 (below_alloc _ o)
    have ac_R2_1 := fun o => cell_b c_R2_1 (below_alloc _ o)
    have ac_R3_1 := fun o => cell_b c_R3_1 (below_alloc _ o)
    have af_R0_1 := fun o => frz_b (cell_lt c_R0_1) f_R0_1 (below_alloc _ o)
    have af_R1_1 := fun o => frz_b (cell_lt c_R1_1) f_R1_1 (below_alloc _ o)
    have af_R2_1 := fun o => frz_b (cell_lt c_R2_1) f_R2_1 (below_alloc _ o)
    have af_R3_1 := fun o => frz_b (cell_lt c_R3_1) f_R3_1 (below_alloc _ o)
    clear hb D1 T0
    go_wp2_with fail
    refine bodyPost_ret (v := .tuple #[.agg #[.int .i64 0, .int .i64 0, .int .i64 0, .slice none 0 0], .bool false]) (by simp [results, Try.results31, go_sem, c_R0_1, c_R1_1, c_R2_1, c_R3_1]) rfl ⟨_, _, rfl, ow_nil _ _, ((((T1.out).setCell (by simp) _).setCell (by simp) _).setCell (by simp) _).setCell (by simp) _⟩
end Go.Proofs.Ytgdhbhgkfcgjdaa
