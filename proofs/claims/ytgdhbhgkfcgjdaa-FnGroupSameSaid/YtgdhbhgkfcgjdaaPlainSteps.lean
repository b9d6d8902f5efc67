/- Plain laws on groups that count down; on equality. -/
import Derived.Test.YtgdhbhgkfcgjdaaPlainGroup
namespace Go.Proofs.Ytgdhbhgkfcgjdaa
def gz (d : Int) (xs : List Int) : List Int := if d = 0 then [] else xs
def ga (d : Int) (xs : List Int) : List Int := if d = 0 then xs else []
theorem gz_len (d : Int) (xs : List Int) : (gz d xs).length ≤ xs.length := by unfold gz; split <;> simp
theorem ga_len (d : Int) (xs : List Int) : (ga d xs).length ≤ xs.length := by unfold ga; split <;> simp
theorem gz_pos {d : Int} {xs : List Int} (h : 0 < d) : gz d xs = xs := if_neg (by omega)
theorem ga_pos {d : Int} {xs : List Int} (h : 0 < d) : ga d xs = [] := if_neg (by omega)
theorem addG_gz {c t : Int} {xs : List Int} (h : addOk c xs t = true) : ∃ XS W, addG c xs t = (c + t, XS, W, true) ∧ XS = gz (c + t) xs ∧ W = ga (c + t) xs ∧ XS.length ≤ 6 ∧ W.length ≤ 6 := by
  have hl := (addOk_in h).2.2.2.2.2.2
  refine ⟨_, _, ?_, rfl, rfl, Nat.le_trans (gz_len _ _) hl, Nat.le_trans (ga_len _ _) hl⟩
  rw [addG_eq, if_pos h]
  by_cases hz : c + t = 0
  · rw [if_pos hz]; simp [gz, ga, hz]
  · rw [if_neg hz]; simp [gz, ga, hz]
theorem gz_step {c t : Int} {xs : List Int} {k : Nat} (h : addOk c xs t = true) (hk : (k : Int) < -t) :
    ∃ Z1 W1, addG (c - k) (gz (c - k) xs) (-1) = (c - k - 1, Z1, W1, true) ∧ ga (c - k) xs ++ W1 = W1 ∧ Z1 = gz (c - ((k + 1 : Nat) : Int)) xs ∧ W1 = ga (c - ((k + 1 : Nat) : Int)) xs := by
  have h2 := addOk_iff.1 h
  have h3 := gval_iff.1 h2.1
  have h4 : addOk (c - k) xs (-1) = true := by
    rw [addOk_iff]; exact ⟨gval_mono h2.1 (by omega) (by omega), by omega, by omega, by omega, by omega⟩
  obtain ⟨XS, W, h5, h6, h7, _⟩ := addG_gz h4
  refine ⟨XS, W, ?_, ?_, ?_, ?_⟩
  · rw [gz_pos (by omega), h5]; rfl
  · rw [ga_pos (by omega)]; rfl
  · rw [h6]; congr 1
    push_cast; omega
  · rw [h7]; congr 1
    push_cast; omega
theorem same_sym1 (c d : Int) (xs ys : List Int) : (decide (d = c) && eqB ys xs) = (decide (c = d) && eqB xs ys) := by
  have h1 : decide (d = c) = decide (c = d) := by rw [decide_eq_decide]; exact eq_comm
  have h2 : eqB ys xs = eqB xs ys := by unfold eqB; rw [decide_eq_decide]; exact eq_comm
  rw [h1, h2]
end Go.Proofs.Ytgdhbhgkfcgjdaa
