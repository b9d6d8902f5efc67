/- Plain laws on barriers. -/
import Derived.Test.YtkglngcopflgeaaArrive
import Derived.Test.YtkglngcopflgeaaPlainCond
namespace Go.Proofs.Ytkglngcopflgeaa
/-- 0, 1, .., k - 1 -/
def rg (k : Nat) : List Int := (List.range k).map (fun i : Nat => (i : Int))
theorem rg_len (k : Nat) : (rg k).length = k := by simp [rg]
theorem rg_succ (k : Nat) : rg (k + 1) = rg k ++ [(k : Int)] := by simp [rg, List.range_succ]
theorem rg_dist : ∀ k, k < 6 → dist (rg k) = true := by decide
theorem rg_not : ∀ k, k < 6 → hasB (rg k) k = false := by decide
theorem arr_rg {t k : Nat} {m : Int} (h2 : t ≤ 6) (h3 : k < t) (h4 : 0 ≤ m) (h5 : m ≤ 9000) :
    arr t m (rg k) k = if k + 1 < t then ((t : Int), m, rg (k + 1), [], true) else ((t : Int), m + 1, [], rg (k + 1), true) := by
  have hv : bval t m (rg k) = true := by
    rw [bval_ok (by rw [rg_len]; omega)]; exact rg_dist k (by omega)
  have ht : thr (k : Int) = true := thr_iff.2 (by omega)
  have hh := rg_not k (by omega)
  unfold arr
  rw [hv, ht, hh, rg_len]
  simp only [Bool.and_self, Bool.not_false, if_true]
  by_cases h : k + 1 < t
  · rw [if_pos (by omega), if_pos h, rg_succ]
  · rw [if_neg (by omega), if_neg h, if_pos (by omega), rg_succ]
theorem bval_new {t : Int} {m : Int} (h1 : 1 ≤ t) (h2 : t ≤ 6) (h4 : 0 ≤ m) (h5 : m ≤ 9000) : bval t m [] = true := by
  rw [bval_ok (by simp; omega)]; exact dist_nil
end Go.Proofs.Ytkglngcopflgeaa
