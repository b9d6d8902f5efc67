/- Plain laws on lists of threads. -/
import Derived.Test.YtgdhbhgkfcgjdaaBase
namespace Go.Proofs.Ytgdhbhgkfcgjdaa
theorem vt_iff {xs : List Int} : vt xs = true ↔ xs.length ≤ 6 ∧ (∀ x ∈ xs, thr x = true) ∧ xs.Nodup := by unfold vt; simp [dist_iff]
theorem thr_iff {t : Int} : thr t = true ↔ 0 ≤ t ∧ t < 6 := by simp [thr]
theorem vt_tail {xs : List Int} (h : vt xs = true) : vt xs.tail = true := by
  rw [vt_iff] at h ⊢
  exact ⟨by have := h.1; simp; omega, fun x hx => h.2.1 x (List.mem_of_mem_tail hx), h.2.2.sublist (List.tail_sublist xs)⟩
theorem tell_split {xs : List Int} (h : vt xs = true) : ∃ H T, xs.take 1 = H ∧ xs.tail = T ∧ H ++ T = xs ∧ H.length ≤ 1 ∧ vt T = true :=
  ⟨xs.take 1, xs.tail, rfl, rfl, by cases xs <;> simp, by simp; omega, vt_tail h⟩
/-- Different numbers from 0 to n - 1 are at most n. -/
theorem few (n : Nat) : ∀ xs : List Int, xs.Nodup → (∀ x ∈ xs, 0 ≤ x ∧ x < n) → xs.length ≤ n := by
  induction n with
  | zero => intro xs _ h; cases xs with
    | nil => simp
    | cons x xs => have := h x (by simp); omega
  | succ n ih =>
    intro xs hn h
    have h1 := ih (xs.erase (n : Int)) (hn.erase _) (fun x hx => by
      have h2 := (hn.mem_erase_iff).1 hx
      have h3 := h x h2.2
      have h4 : x ≠ n := h2.1
      omega)
    have h5 := List.length_erase_le (a := (n : Int)) (l := xs)
    by_cases hm : (n : Int) ∈ xs
    · have := List.length_erase_of_mem hm; omega
    · rw [List.erase_of_not_mem hm] at h1; omega
theorem waitOk_iff {xs : List Int} {t : Int} : waitOk xs t = true ↔ vt xs = true ∧ thr t = true ∧ t ∉ xs := by unfold waitOk hasB; simp [and_assoc]
theorem vt_snoc {xs : List Int} {t : Int} (h : waitOk xs t = true) : vt (xs ++ [t]) = true := by
  rw [waitOk_iff] at h
  obtain ⟨h1, h2, h3⟩ := h
  rw [vt_iff] at h1
  have hn : (xs ++ [t]).Nodup := by
    rw [List.nodup_append]; exact ⟨h1.2.2, List.pairwise_singleton _ _, fun a ha b hb e => by rw [List.mem_singleton] at hb; exact h3 (hb ▸ e ▸ ha)⟩
  have ha : ∀ x ∈ xs ++ [t], thr x = true := fun x hx => by
    rcases List.mem_append.1 hx with hx | hx
    · exact h1.2.1 x hx
    · rw [List.mem_singleton.1 hx]; exact h2
  rw [vt_iff]
  exact ⟨few 6 _ hn (fun x hx => by have := thr_iff.1 (ha x hx); omega), ha, hn⟩
theorem sub_len : ∀ (l xs : List Int), l.Nodup → (∀ x ∈ l, x ∈ xs) → l.length ≤ xs.length := by
  intro l
  induction l with
  | nil => intro xs _ _; simp
  | cons a l ih =>
    intro xs hn h
    rw [List.nodup_cons] at hn
    have ha : a ∈ xs := h a (by simp)
    have h1 := ih (xs.erase a) hn.2 (fun x hx => (List.mem_erase_of_ne (by rintro rfl; exact hn.1 hx)).2 (h x (by simp [hx])))
    have h2 := List.length_erase_of_mem ha
    have h3 := List.length_pos_of_mem ha
    simp only [List.length_cons]; omega
/-- A list of threads to which none can be added has all of them. -/
theorem all_six {xs : List Int} (h : vt xs = true) (ha : ∀ s : Nat, s < 6 → (s : Int) ∈ xs) : xs.length = 6 := by
  have h1 := (vt_iff.1 h).1
  have h2 := sub_len [0, 1, 2, 3, 4, 5] xs (by decide) (fun x hx => by
    simp only [List.mem_cons, List.not_mem_nil, or_false] at hx
    rcases hx with rfl | rfl | rfl | rfl | rfl | rfl
    · exact ha 0 (by omega)
    · exact ha 1 (by omega)
    · exact ha 2 (by omega)
    · exact ha 3 (by omega)
    · exact ha 4 (by omega)
    · exact ha 5 (by omega))
  simp at h2; omega
theorem not_waitOk {xs : List Int} {t : Int} (hv : vt xs = true) (ht : thr t = true) (h : waitOk xs t = false) : t ∈ xs := by
  rw [Bool.eq_false_iff, Ne, waitOk_iff] at h
  exact Classical.byContradiction fun hn => h ⟨hv, ht, hn⟩
end Go.Proofs.Ytgdhbhgkfcgjdaa
