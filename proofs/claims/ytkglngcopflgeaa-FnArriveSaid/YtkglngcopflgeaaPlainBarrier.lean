/- Plain laws on barriers. -/
import Derived.Test.YtkglngcopflgeaaArrive
import Derived.Test.YtkglngcopflgeaaPlainCond
namespace Go.Proofs.Ytkglngcopflgeaa
/-- 0, 1, .., k - 1 -/
def rg (k : Nat) : List Int := (List.range k).map (fun i : Nat => (i : Int))
theorem rg_len (k : Nat) : (rg k).length = k := by simp [rg]
theorem rg_succ (k : Nat) : rg (k + 1) = rg k ++ [(k : Int)] := by simp [rg, List.range_succ]
theorem rg_dist : ∀ k, k < 6 → dist (rg k) = true := by decide
theorem rg_not : ∀ k, k < 6 → hasB (rg k) k = false := by decide
theorem arr_rg {t k : Nat} {m : Int} (h2 : t ≤ 6) (h3 : k < t) (h4 : 0 ≤ m) (h5 : m ≤ 9000) :
    arr t m (rg k) k = if k + 1 < t then ((t : Int), m, rg (k + 1), [], true) else ((t : Int), m + 1, [], rg (k + 1), true) := by
  have hv : bval t m (rg k) = true := by
    rw [bval_ok (by rw [rg_len]; omega)]; exact rg_dist k (by omega)
  have ht : thr (k : Int) = true := thr_iff.2 (by omega)
  have hh := rg_not k (by omega)
  unfold arr
  rw [hv, ht, hh, rg_len]
  simp only [Bool.and_self, Bool.not_false, if_true]
  by_cases h : k + 1 < t
  · rw [if_pos (by omega), if_pos h, rg_succ]
  · rw [if_neg (by omega), if_neg h, if_pos (by omega), rg_succ]
theorem bval_new {t : Int} {m : Int} (h1 : 1 ≤ t) (h2 : t ≤ 6) (h4 : 0 ≤ m) (h5 : m ≤ 9000) : bval t m [] = true := by
  rw [bval_ok (by simp; omega)]; exact dist_nil
/-- What arriving does, in three ways. -/
theorem arr_three (p m : Int) (xs : List Int) (t : Int) :
    (arr p m xs t = (p, m, xs ++ [t], [], true) ∧ bval p m (xs ++ [t]) = true ∧ xs.length ≤ 4) ∨
    (arr p m xs t = (p, m + 1, [], xs ++ [t], true) ∧ bval p (m + 1) [] = true ∧ (xs.length : Int) + 1 = p ∧ xs.length ≤ 5 ∧ 0 ≤ m ∧ m + 1 ≤ 9999 ∧ thr t = true) ∨
    arr p m xs t = (0, 0, [], [], false) := by
  unfold arr
  by_cases h : (bval p m xs && thr t && !hasB xs t) = true
  · rw [if_pos h]
    simp only [Bool.and_eq_true, Bool.not_eq_true', hasB, decide_eq_false_iff_not] at h
    obtain ⟨⟨hb, ht⟩, hn⟩ := h
    obtain ⟨h1, h2, h3, h4, h5, h6⟩ := bval_in hb
    have hw : waitOk xs t = true := by rw [waitOk_iff]; exact ⟨by rw [vt_dist (by omega)]; exact h6, ht, hn⟩
    have hv := vt_snoc hw
    have hl := (vt_iff.1 hv).1
    simp at hl
    by_cases h7 : (xs.length : Int) + 1 < p
    · left
      rw [if_pos h7]
      refine ⟨rfl, ?_, by omega⟩
      rw [bval_ok ⟨h1, h2, h3, h4, by simp; omega⟩, ← vt_dist (by simp; omega)]; exact hv
    · rw [if_neg h7]
      by_cases h8 : m + 1 ≤ 9999
      · right; left
        rw [if_pos h8]
        exact ⟨rfl, bval_ok (xs := []) ⟨h1, h2, by omega, h8, by simp; omega⟩ ▸ dist_nil, by omega, by omega, h3, h8, ht⟩
      · right; right; rw [if_neg h8]
  · right; right; rw [if_neg h]
theorem arr_again {p m : Int} {xs : List Int} {t : Int} : arr p m (xs ++ [t]) t = (0, 0, [], [], false) := by
  unfold arr
  rw [if_neg (by simp [hasB])]
theorem arr_next {p m : Int} {t : Int} (h : bval p m [] = true) (ht : thr t = true) (hm : m + 1 ≤ 9999) : ∃ z, arr p m [] t = z ∧ z.2.2.2.2 = true ∧ z.2.2.1.length ≤ 1 ∧ z.2.2.2.1.length ≤ 1 := by
  refine ⟨_, rfl, ?_, ?_, ?_⟩
  · unfold arr
    rw [if_pos (by rw [h, ht]; rfl)]
    by_cases h7 : (([] : List Int).length : Int) + 1 < p
    · rw [if_pos h7]
    · rw [if_neg h7, if_pos hm]
  · exact arr_len1 p m [] t
  · exact arr_len2 p m [] t
end Go.Proofs.Ytkglngcopflgeaa
