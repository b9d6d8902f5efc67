/- Plain facts on onces, and the head of a row that is read. -/
import Derived.Test.YtgdhbhgkfcgjdaaFinishOnce
import Derived.Test.YtgdhbhgkfcgjdaaFailOnce
import Derived.Test.YtgdhbhgkfcgjdaaGuard
namespace Go.Proofs.Ytgdhbhgkfcgjdaa
open Go.RowKit

theorem same_sym3 (a b c d e f : Int) (xs ys : List Int) : (decide (a = d) && decide (b = e) && decide (c = f) && eqB xs ys) = (decide (d = a) && decide (e = b) && decide (f = c) && eqB ys xs) := by
  unfold eqB; rw [Bool.eq_iff_iff]; simp only [Bool.and_eq_true, decide_eq_true_eq]
  constructor <;> (rintro ⟨⟨⟨h1, h2⟩, h3⟩, h4⟩; exact ⟨⟨⟨h1.symm, h2.symm⟩, h3.symm⟩, h4.symm⟩)
theorem fail_no {s o k : Int} {xs : List Int} {t : Int} (h : runs s o k xs t = false) : failO s o k xs t = (0, 0, [], false) := by unfold failO; rw [if_neg (by rw [h]; simp)]
theorem fail_nil {s o k : Int} {t : Int} (h : runs s o k [] t = true) : failO s o k [] t = (0, 0, [], true) := by unfold failO; rw [if_pos h]
theorem oval_zero : oval 0 0 0 [] = true := by decide
theorem vt_tail {y : Int} {ys : List Int} (h : vt (y :: ys) = true) : vt ys = true ∧ thr y = true ∧ y ∉ ys := by
  unfold vt at h ⊢
  simp only [Bool.and_eq_true, decide_eq_true_eq, List.length_cons] at h ⊢
  obtain ⟨h1, h2⟩ := h
  rw [dist_iff] at h2 ⊢
  obtain ⟨h3, h4⟩ := h2
  rw [List.nodup_cons] at h4
  exact ⟨⟨by omega, fun x hx => h3 x (List.mem_cons_of_mem _ hx), h4.2⟩, h3 y (List.mem_cons_self ..), h4.1⟩
theorem fail_cons {s o k : Int} {y : Int} {ys : List Int} {t : Int} (h : runs s o k (y :: ys) t = true) :
    failO s o k (y :: ys) t = (1, y, ys, true) ∧ oval 1 y 0 ys = true ∧ fin 1 y 0 ys y 9 = (2, y, 9, ys, true) ∧ fin 1 y 0 ys t 9 = (0, 0, 0, [], false) ∧ ys.length ≤ 5 := by
  have e0 : failO s o k (y :: ys) t = (1, y, ys, true) := by unfold failO; rw [if_pos h]
  unfold runs at h
  simp only [Bool.and_eq_true, decide_eq_true_eq] at h
  obtain ⟨⟨hv, rfl⟩, rfl⟩ := h
  have hl := oval_len hv
  have e1 : oval 1 y 0 ys = true ∧ y ≠ o := by
    unfold oval at hv ⊢
    simp only [show ¬ ((1 : Int) = 0) by decide, if_false, if_true, Bool.and_eq_true, decide_eq_true_eq] at hv ⊢
    obtain ⟨⟨⟨h1, h2⟩, h3⟩, h4⟩ := hv
    obtain ⟨a1, a2, a3⟩ := vt_tail h3
    refine ⟨⟨⟨⟨a2, trivial⟩, a1⟩, by unfold hasB; simpa using a3⟩, ?_⟩
    rintro rfl
    simp [hasB] at h4
  refine ⟨e0, e1.1, ?_, ?_, by simp at hl; omega⟩
  · unfold fin; rw [if_pos (by unfold runs; rw [e1.1]; simp [val])]
  · unfold fin; rw [if_neg (by unfold runs; rw [e1.1]; simp [e1.2])]
/-- The first one of a row, and the others. -/
theorem rdb_uncons {w : World} {B : Nat} {a : Option Addr} {n cap : Nat} {x : Int} {ys : List Int} (h : RdB w B (.slice a n cap) (x :: ys)) :
    ∃ g off, a = some ⟨g, off, none⟩ ∧ ys.length + 1 ≤ cap ∧ w.cell? ⟨g, off, none⟩ = some (.int .i64 x) ∧ ∀ o, (o = off + 1 ∨ ys = []) → RdB w B (.slice (some ⟨g, o, none⟩) ys.length (cap - 1)) ys := by
  obtain ⟨⟨a', cap', hv, hc, hn, h5⟩, h2⟩ := h
  simp only [Value.slice.injEq] at hv
  obtain ⟨rfl, rfl, rfl⟩ := hv
  rcases h5 with h5 | ⟨g, o, rfl, hlt, hf⟩
  · simp at h5
  · refine ⟨g, o, rfl, by simpa using hc, ?_, fun o' ho => ⟨rd_tail hlt hc hf o' ho, fun g' hg' => h2 g' (by simpa [Value.ownBlock] using hg')⟩⟩
    have := hf 0 (by simp)
    simpa using this
end Go.Proofs.Ytgdhbhgkfcgjdaa
