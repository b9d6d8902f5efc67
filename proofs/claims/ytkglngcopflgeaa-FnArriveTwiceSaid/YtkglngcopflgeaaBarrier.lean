/- Contracts of the functions over barriers. -/
import Derived.Test.YtkglngcopflgeaaLeaf
namespace Go.Proofs.Ytkglngcopflgeaa
open Go.RowKit

/-- Is the barrier valid? -/
def bval (p r : Int) (xs : List Int) : Bool := decide (1 ≤ p) && decide (p ≤ 6) && decide (0 ≤ r) && decide (r ≤ 9999) && decide ((xs.length : Int) < p) && dist xs
theorem bval_bad {p r : Int} {xs : List Int} (h : p < 1 ∨ 6 < p ∨ r < 0 ∨ 9999 < r ∨ p ≤ xs.length) : bval p r xs = false := by
  rw [Bool.eq_false_iff]; intro hb; unfold bval at hb; simp only [Bool.and_eq_true, decide_eq_true_eq] at hb; omega
theorem bval_ok {p r : Int} {xs : List Int} (h : 1 ≤ p ∧ p ≤ 6 ∧ 0 ≤ r ∧ r ≤ 9999 ∧ (xs.length : Int) < p) : bval p r xs = dist xs := by
  obtain ⟨h1, h2, h3, h4, h5⟩ := h
  unfold bval; simp [h1, h2, h3, h4, h5]
theorem bval_in {p r : Int} {xs : List Int} (h : bval p r xs = true) : 1 ≤ p ∧ p ≤ 6 ∧ 0 ≤ r ∧ r ≤ 9999 ∧ (xs.length : Int) < p ∧ dist xs = true := by
  unfold bval at h; simp only [Bool.and_eq_true, decide_eq_true_eq] at h; obtain ⟨⟨⟨⟨⟨h1, h2⟩, h3⟩, h4⟩, h5⟩, h6⟩ := h; exact ⟨h1, h2, h3, h4, h5, h6⟩

set_option maxHeartbeats 1000000 in
theorem I_BarrierValid (w : World) (p r : Int) (v : Value) (xs : List Int) (hr : Rd w v xs) (hl : xs.length ≤ 4294967296) :
    Calls Try.prog 28 #[.agg #[.int .i64 p, .int .i64 r, v]] w fun e w' => e = .returned (.bool (bval p r xs)) ∧ Below w.heap.size w w' := by
  have hr0 := Lib.hid hr
  obtain ⟨a, cap, rfl, hcap, hnc, hr⟩ := hr
  clear hr hnc
  by_cases h : 1 ≤ p ∧ p ≤ 6 ∧ 0 ≤ r ∧ r ≤ 9999 ∧ (xs.length : Int) < p
  · rw [bval_ok h]
    obtain ⟨h1, h2, h3, h4, h5⟩ := h
    go_enter Try.func28, Try.ntmps28
    go_wp2_with fail
    refine (I_distinctThreads _ _ xs (rd_alloc hr0.out _) hl).mono ?_
    rintro e w1 ⟨rfl, hb⟩
    have HB := Lib.hid (below_trans (below_alloc _ _) hb)
    clear hb
    go_wp2_with fail
    go_ret
    exact ⟨rfl, HB.out⟩
  · have h' : p < 1 ∨ 6 < p ∨ r < 0 ∨ 9999 < r ∨ p ≤ xs.length := by omega
    rw [bval_bad h']
    clear h
    rcases h' with h | h | h | h | h
    all_goals
      go_enter Try.func28, Try.ntmps28
      go_wp2_with fail
      all_goals go_ret
      all_goals exact ⟨rfl, below_alloc _ _⟩

set_option maxHeartbeats 1000000 in
theorem S_BarrierValid (w : World) (p r : Int) (v : Value) (xs : List Int) (hr : Rd w v xs) (hl : xs.length ≤ 4294967296) :
    Calls Try.prog 29 #[.agg #[.int .i64 p, .int .i64 r, v]] w fun e w' => e = .returned (.bool (bval p r xs)) ∧ Below w.heap.size w w' := by
  have hr0 := Lib.hid hr
  obtain ⟨a, cap, rfl, hcap, hnc, hr⟩ := hr
  clear hr hnc
  by_cases h : 1 ≤ p ∧ p ≤ 6 ∧ 0 ≤ r ∧ r ≤ 9999 ∧ (xs.length : Int) < p
  · rw [bval_ok h]
    obtain ⟨h1, h2, h3, h4, h5⟩ := h
    rw [← vt_dist (show xs.length ≤ 6 by omega)]
    go_enter Try.func29, Try.ntmps29
    go_wp2_with fail
    refine (drew_b (S_l2Waits _ _ xs (rd_alloc hr0.out _) hl)).mono ?_
    rintro e w1 ⟨rfl, hb⟩
    have c1 := cell_b (p := ⟨w.heap.size, 0, none⟩) (v := .int .i64 p) (by simp) hb
    have c2 := cell_b (p := ⟨w.heap.size, 2, none⟩) (v := .slice a xs.length cap) (by simp) hb
    have HB := Lib.hid (below_trans (below_alloc _ _) hb)
    clear hb
    by_cases hv : vt xs = true
    · go_wp2_with fail
      go_ret
      exact ⟨by rw [hv]; rfl, HB.out⟩
    · have hv' : vt xs = false := by simpa using hv
      clear hv
      go_wp2_with fail
      go_ret
      exact ⟨by rw [hv']; rfl, HB.out⟩
  · have h' : p < 1 ∨ 6 < p ∨ r < 0 ∨ 9999 < r ∨ p ≤ xs.length := by omega
    rw [bval_bad h']
    clear h
    rcases h' with h | h | h | h | h
    iterate 4
      · go_enter Try.func29, Try.ntmps29
        go_wp2_with fail
        all_goals go_ret
        all_goals exact ⟨rfl, below_alloc _ _⟩
    by_cases hp : 1 ≤ p ∧ p ≤ 6 ∧ 0 ≤ r ∧ r ≤ 9999
    · obtain ⟨h1, h2, h3, h4⟩ := hp
      go_enter Try.func29, Try.ntmps29
      go_wp2_with fail
      refine (drew_b (S_l2Waits _ _ xs (rd_alloc hr0.out _) hl)).mono ?_
      rintro e w1 ⟨rfl, hb⟩
      have c1 := cell_b (p := ⟨w.heap.size, 0, none⟩) (v := .int .i64 p) (by simp) hb
      have c2 := cell_b (p := ⟨w.heap.size, 2, none⟩) (v := .slice a xs.length cap) (by simp) hb
      have HB := Lib.hid (below_trans (below_alloc _ _) hb)
      clear hb
      by_cases hv : vt xs = true
      · go_wp2_with fail
        go_ret
        exact ⟨by simp; omega, HB.out⟩
      · have hv' : vt xs = false := by simpa using hv
        clear hv
        go_wp2_with fail
        go_ret
        exact ⟨rfl, HB.out⟩
    · have h' : p < 1 ∨ 6 < p ∨ r < 0 ∨ 9999 < r := by omega
      clear hp
      rcases h' with h' | h' | h' | h'
      all_goals
        go_enter Try.func29, Try.ntmps29
        go_wp2_with fail
        all_goals go_ret
        all_goals exact ⟨rfl, below_alloc _ _⟩

def nbOk (n : Int) : Bool := decide (1 ≤ n) && decide (n ≤ 6)
def nbP (n : Int) : Int := if nbOk n = true then n else 0
theorem nbOk_iff {n : Int} : nbOk n = true ↔ 1 ≤ n ∧ n ≤ 6 := by simp [nbOk]
theorem nbOk_bval (n : Int) : bval n 0 [] = nbOk n := by
  rw [Bool.eq_iff_iff, nbOk_iff]
  constructor
  · intro h; have := bval_in h; exact ⟨this.1, this.2.1⟩
  · intro h; rw [bval_ok ⟨h.1, h.2, by omega, by omega, by simp; omega⟩]; exact dist_nil
set_option maxHeartbeats 1000000 in
theorem I_NewBarrier (w : World) (n : Int) :
    Calls Try.prog 13 #[.int .i64 n] w fun e w' => ∃ a cap, e = .returned (.tuple #[.agg #[.int .i64 (nbP n), .int .i64 0, .slice a ([] : List Int).length cap], .bool (nbOk n)]) ∧ Ow w' w.heap.size (.slice a ([] : List Int).length cap) [] ∧ Below w.heap.size w w' := by
  by_cases hk : nbOk n = true
  · have hp : nbP n = n := by simp [nbP, hk]
    have hb : bval n 0 [] = true := by rw [nbOk_bval, hk]
    rw [hp, hk]
    clear hp hk
    go_enter Try.func13, Try.ntmps13
    have T0 := Lib.hid (Below.refl w.heap.size w)
    go_wp2_with fail
    refine (I_BarrierValid _ n 0 _ [] (rd_nil _) (by simp)).mono ?_
    rintro e w1 ⟨rfl, hb⟩
    have D1 : Below w.heap.size w w1 := below_trans (below_alloc _ _) (below_trans (below_alloc _ _) (hb))
    have T1 := Lib.hid (below_trans T0.out D1)
    have z1 : w.heap.size + 2 ≤ w1.heap.size := (by have := hb.size; (try simp at this); omega)
    have c_R0_1 := cell_b (p := ⟨w.heap.size, 0, none⟩) (v := .int .i64 0) (by simp) hb
    have f_R0_1 : w1.frozen? ⟨w.heap.size, 0, none⟩ = false := (hb.frozen (p := ⟨w.heap.size, 0, none⟩) (by simp; try omega)).trans (by simp)
    have c_R1_1 := cell_b (p := ⟨w.heap.size, 1, none⟩) (v := .int .i64 0) (by simp) hb
    have f_R1_1 : w1.frozen? ⟨w.heap.size, 1, none⟩ = false := (hb.frozen (p := ⟨w.heap.size, 1, none⟩) (by simp; try omega)).trans (by simp)
    have c_R2_1 := cell_b (p := ⟨w.heap.size, 2, none⟩) (v := .slice none 0 0) (by simp) hb
    have f_R2_1 : w1.frozen? ⟨w.heap.size, 2, none⟩ = false := (hb.frozen (p := ⟨w.heap.size, 2, none⟩) (by simp; try omega)).trans (by simp)
    have c_B0_1 := cell_b (p := ⟨w.heap.size + 1, 0, none⟩) (v := .int .i64 n) (by simp) hb
    have c_B1_1 := cell_b (p := ⟨w.heap.size + 1, 1, none⟩) (v := .int .i64 0) (by simp) hb
    have c_B2_1 := cell_b (p := ⟨w.heap.size + 1, 2, none⟩) (v := .slice none 0 0) (by simp) hb
    have ac_R0_1 := fun o => cell_b c_R0_1 (below_alloc _ o)
    have ac_R1_1 := fun o => cell_b c_R1_1 (below_alloc _ o)
    have ac_R2_1 := fun o => cell_b c_R2_1 (below_alloc _ o)
    have ac_B0_1 := fun o => cell_b c_B0_1 (below_alloc _ o)
    have ac_B1_1 := fun o => cell_b c_B1_1 (below_alloc _ o)
    have ac_B2_1 := fun o => cell_b c_B2_1 (below_alloc _ o)
    have af_R0_1 := fun o => frz_b (cell_lt c_R0_1) f_R0_1 (below_alloc _ o)
    have af_R1_1 := fun o => frz_b (cell_lt c_R1_1) f_R1_1 (below_alloc _ o)
    have af_R2_1 := fun o => frz_b (cell_lt c_R2_1) f_R2_1 (below_alloc _ o)
    clear hb D1 T0
    go_wp2_with fail
    refine bodyPost_ret (v := .tuple #[.agg #[.int .i64 n, .int .i64 0, .slice none 0 0], .bool true]) (by simp [results, Try.results13, go_sem, c_R0_1, c_R1_1, c_R2_1]) rfl ⟨_, _, rfl, ow_nil _ _, (((T1.out).setCell (by simp) _).setCell (by simp) _).setCell (by simp) _⟩
  · have hk' : nbOk n = false := by simpa using hk
    have hp : nbP n = 0 := by simp [nbP, hk']
    have hb : bval n 0 [] = false := by rw [nbOk_bval, hk']
    rw [hp, hk']
    clear hp hk hk'
    go_enter Try.func13, Try.ntmps13
    have T0 := Lib.hid (Below.refl w.heap.size w)
    go_wp2_with fail
    refine (I_BarrierValid _ n 0 _ [] (rd_nil _) (by simp)).mono ?_
    rintro e w1 ⟨rfl, hb⟩
    have D1 : Below w.heap.size w w1 := below_trans (below_alloc _ _) (below_trans (below_alloc _ _) (hb))
    have T1 := Lib.hid (below_trans T0.out D1)
    have z1 : w.heap.size + 2 ≤ w1.heap.size := (by have := hb.size; (try simp at this); omega)
    have c_R0_1 := cell_b (p := ⟨w.heap.size, 0, none⟩) (v := .int .i64 0) (by simp) hb
    have f_R0_1 : w1.frozen? ⟨w.heap.size, 0, none⟩ = false := (hb.frozen (p := ⟨w.heap.size, 0, none⟩) (by simp; try omega)).trans (by simp)
    have c_R1_1 := cell_b (p := ⟨w.heap.size, 1, none⟩) (v := .int .i64 0) (by simp) hb
    have f_R1_1 : w1.frozen? ⟨w.heap.size, 1, none⟩ = false := (hb.frozen (p := ⟨w.heap.size, 1, none⟩) (by simp; try omega)).trans (by simp)
    have c_R2_1 := cell_b (p := ⟨w.heap.size, 2, none⟩) (v := .slice none 0 0) (by simp) hb
    have f_R2_1 : w1.frozen? ⟨w.heap.size, 2, none⟩ = false := (hb.frozen (p := ⟨w.heap.size, 2, none⟩) (by simp; try omega)).trans (by simp)
    have c_B0_1 := cell_b (p := ⟨w.heap.size + 1, 0, none⟩) (v := .int .i64 n) (by simp) hb
    have c_B1_1 := cell_b (p := ⟨w.heap.size + 1, 1, none⟩) (v := .int .i64 0) (by simp) hb
    have c_B2_1 := cell_b (p := ⟨w.heap.size + 1, 2, none⟩) (v := .slice none 0 0) (by simp) hb
    have ac_R0_1 := fun o => cell_b c_R0_1 (below_alloc _ o)
    have ac_R1_1 := fun o => cell_b c_R1_1 (below_alloc _ o)
    have ac_R2_1 := fun o => cell_b c_R2_1 (below_alloc _ o)
    have ac_B0_1 := fun o => cell_b c_B0_1 (below_alloc _ o)
    have ac_B1_1 := fun o => cell_b c_B1_1 (below_alloc _ o)
    have ac_B2_1 := fun o => cell_b c_B2_1 (below_alloc _ o)
    have af_R0_1 := fun o => frz_b (cell_lt c_R0_1) f_R0_1 (below_alloc _ o)
    have af_R1_1 := fun o => frz_b (cell_lt c_R1_1) f_R1_1 (below_alloc _ o)
    have af_R2_1 := fun o => frz_b (cell_lt c_R2_1) f_R2_1 (below_alloc _ o)
    clear hb D1 T0
    go_wp2_with fail
    refine bodyPost_ret (v := .tuple #[.agg #[.int .i64 0, .int .i64 0, .slice none 0 0], .bool false]) (by simp [results, Try.results13, go_sem, c_R0_1, c_R1_1, c_R2_1]) rfl ⟨_, _, rfl, ow_nil _ _, (((T1.out).setCell (by simp) _).setCell (by simp) _).setCell (by simp) _⟩
set_option maxHeartbeats 1000000 in
theorem S_NewBarrier (w : World) (n : Int) :
    Calls Try.prog 14 #[.int .i64 n] w fun e w' => ∃ a cap, e = .returned (.tuple #[.agg #[.int .i64 (nbP n), .int .i64 0, .slice a ([] : List Int).length cap], .bool (nbOk n)]) ∧ Ow w' w.heap.size (.slice a ([] : List Int).length cap) [] ∧ Below w.heap.size w w' := by
  by_cases hk : nbOk n = true
  · have hp : nbP n = n := by simp [nbP, hk]
    have hn := nbOk_iff.1 hk
    rw [hp, hk]
    clear hp hk
    obtain ⟨h1, h2⟩ := hn
    go_enter Try.func14, Try.ntmps14
    go_wp2_with fail
    refine bodyPost_ret (v := .tuple #[.agg #[.int .i64 n, .int .i64 0, .slice (some ⟨w.heap.size + 1, 0, none⟩) 0 0], .bool true]) (by simp [results, Try.results14, go_sem]) rfl ⟨_, _, rfl, ow_made1 w _ _ (Nat.le_refl _), ((below_alloc _ _).alloc (by simp) _)⟩
  · have hk' : nbOk n = false := by simpa using hk
    have hp : nbP n = 0 := by simp [nbP, hk']
    have hn : n < 1 ∨ 6 < n := by have := mt nbOk_iff.2 hk; omega
    rw [hp, hk']
    clear hp hk hk'
    rcases hn with hn | hn
    all_goals
      go_enter Try.func14, Try.ntmps14
      go_wp2_with fail
      all_goals exact bodyPost_ret (v := .tuple #[.agg #[.int .i64 0, .int .i64 0, .slice none 0 0], .bool false]) (by simp [results, Try.results14, go_sem]) rfl ⟨_, _, rfl, ow_nil _ _, below_alloc _ _⟩
end Go.Proofs.Ytkglngcopflgeaa
