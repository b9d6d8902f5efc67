/- Plain laws on groups. -/
import Derived.Test.YtgdhbhgkfcgjdaaAddGroup
import Derived.Test.YtgdhbhgkfcgjdaaWaitGroup
import Derived.Test.YtgdhbhgkfcgjdaaPlainCond
namespace Go.Proofs.Ytgdhbhgkfcgjdaa
/-- May so much be added? -/
def addOk (c : Int) (xs : List Int) (n : Int) : Bool := gval c xs && decide (-99 ≤ n) && decide (n ≤ 99) && val (c + n)
theorem addG_eq (c : Int) (xs : List Int) (n : Int) : addG c xs n = if addOk c xs n = true then (if c + n = 0 then (0, [], xs, true) else (c + n, xs, [], true)) else (0, [], [], false) := rfl
theorem gval_zero : gval 0 [] = true := by simp [gval, val, vt, dist]
theorem gval_iff {c : Int} {xs : List Int} : gval c xs = true ↔ 0 ≤ c ∧ c ≤ 99 ∧ vt xs = true ∧ (0 < c ∨ xs.length = 0) := by unfold gval val; simp [and_assoc]
theorem addOk_iff {c : Int} {xs : List Int} {n : Int} : addOk c xs n = true ↔ gval c xs = true ∧ -99 ≤ n ∧ n ≤ 99 ∧ 0 ≤ c + n ∧ c + n ≤ 99 := by unfold addOk val; simp [and_assoc]
theorem addOk_in {c : Int} {xs : List Int} {n : Int} (h : addOk c xs n = true) : 0 ≤ c ∧ c ≤ 99 ∧ -99 ≤ n ∧ n ≤ 99 ∧ 0 ≤ c + n ∧ c + n ≤ 99 ∧ xs.length ≤ 6 := by
  rw [addOk_iff, gval_iff] at h
  have := (vt_iff.1 h.1.2.2.1).1
  omega
theorem gval_add {c : Int} {xs : List Int} {n : Int} (h : addOk c xs n = true) (hz : ¬ c + n = 0) : gval (c + n) xs = true := by
  rw [addOk_iff, gval_iff] at h
  rw [gval_iff]; exact ⟨h.2.2.2.1, h.2.2.2.2, h.1.2.2.1, by omega⟩
/-- May the thread wait? -/
def wgOk (c : Int) (xs : List Int) (t : Int) : Bool := gval c xs && thr t && !hasB xs t
theorem wg_eq (c : Int) (xs : List Int) (t : Int) : wg c xs t = if wgOk c xs t = true then (if c = 0 then (0, [], true, true) else (c, xs ++ [t], false, true)) else (0, [], false, false) := rfl
theorem wgOk_iff {c : Int} {xs : List Int} {t : Int} : wgOk c xs t = true ↔ gval c xs = true ∧ waitOk xs t = true := by
  unfold wgOk; rw [waitOk_iff]; simp only [Bool.and_eq_true, hasB]
  constructor
  · rintro ⟨⟨h1, h2⟩, h3⟩; exact ⟨h1, (gval_iff.1 h1).2.2.1, h2, by simpa using h3⟩
  · rintro ⟨h1, _, h2, h3⟩; exact ⟨⟨h1, h2⟩, by simpa using h3⟩
theorem gval_snoc {c : Int} {xs : List Int} {t : Int} (h : wgOk c xs t = true) (hz : ¬ c = 0) : gval c (xs ++ [t]) = true := by
  rw [wgOk_iff] at h
  have h1 := gval_iff.1 h.1
  rw [gval_iff]; exact ⟨h1.1, h1.2.1, vt_snoc h.2, by omega⟩
theorem wgOk_nil {c : Int} {xs : List Int} {t : Int} (h : wgOk c xs t = true) (hz : c = 0) : xs = [] := by
  rw [wgOk_iff] at h
  have h1 := gval_iff.1 h.1
  exact List.eq_nil_of_length_eq_zero (by omega)
theorem wgOk_in {c : Int} {xs : List Int} {t : Int} (h : wgOk c xs t = true) : 0 ≤ c ∧ c ≤ 99 ∧ xs.length ≤ 5 := by
  rw [wgOk_iff] at h
  have h1 := gval_iff.1 h.1
  have h2 := (vt_iff.1 (vt_snoc h.2)).1
  simp at h2; omega
theorem addG_undo {c : Int} {xs : List Int} (h : gval c xs = true) (hc : 0 < c) : addG c xs (-c) = (0, [], xs, true) := by
  have h1 := gval_iff.1 h
  have h2 : addOk c xs (-c) = true := by rw [addOk_iff]; exact ⟨h, by omega, by omega, by omega, by omega⟩
  rw [addG_eq, if_pos h2, if_pos (by omega)]
theorem addG_more {c : Int} {xs : List Int} {n : Int} (h : gval c xs = true) (hn : -99 ≤ n ∧ n ≤ 99) (h1 : 0 < c + n) (h2 : c + n ≤ 99) : addG c xs n = (c + n, xs, [], true) := by
  have h3 : addOk c xs n = true := by rw [addOk_iff]; exact ⟨h, hn.1, hn.2, by omega, by omega⟩
  rw [addG_eq, if_pos h3, if_neg (by omega)]
theorem gval_mono {c d : Int} {xs : List Int} (h : gval c xs = true) (h1 : 0 < d) (h2 : d ≤ 99) : gval d xs = true := by
  have h3 := gval_iff.1 h
  rw [gval_iff]; exact ⟨by omega, h2, h3.2.2.1, .inl h1⟩
theorem addOk_nil {xs : List Int} {n : Int} (h : addOk 0 xs n = true) : xs = [] := by
  have h1 := gval_iff.1 (addOk_iff.1 h).1
  exact List.eq_nil_of_length_eq_zero (by omega)
theorem addG_half {c h t : Int} {xs : List Int} (hok : addOk c xs t = true) (hz : ¬ c + t = 0) (h0 : 0 ≤ h) (h1 : h ≤ t) :
    ∃ (z : Int) (Q : List Int), (addG c xs h = (z, Q, [], true) ∧ addG z Q (t - h) = (c + t, xs, [], true)) ∧ Q.length ≤ 6 := by
  have h2 := addOk_iff.1 hok
  have h3 := gval_iff.1 h2.1
  have h4 := (vt_iff.1 h3.2.2.1).1
  by_cases hc : c + h = 0
  · obtain rfl : c = 0 := by omega
    obtain rfl : h = 0 := by omega
    have hx := addOk_nil hok
    subst hx
    refine ⟨0, [], ⟨by decide, ?_⟩, by simp⟩
    have := addG_eq 0 [] (t - 0)
    rw [this, if_pos (by rw [addOk_iff]; exact ⟨gval_zero, by omega, by omega, by omega, by omega⟩), if_neg (by omega), show (0 : Int) + (t - 0) = 0 + t by omega]
  · refine ⟨c + h, xs, ⟨addG_more h2.1 (by omega) (by omega) (by omega), ?_⟩, h4⟩
    have := addG_more (n := t - h) (gval_mono h2.1 (show 0 < c + h by omega) (by omega)) (by omega) (by omega) (by omega)
    rw [this, show c + h + (t - h) = c + t by omega]
end Go.Proofs.Ytgdhbhgkfcgjdaa
