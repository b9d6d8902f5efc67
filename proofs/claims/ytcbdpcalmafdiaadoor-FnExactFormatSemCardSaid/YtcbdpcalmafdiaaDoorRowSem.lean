/- How a slice of pairs that is read becomes what the walks ask for. -/
import Derived.Test.YtcbdpcalmafdiaaDoorRowKit
import Derived.Test.YtcbdpcalmafdiaaDoorRow
import Derived.Deep.SlicePairs
namespace Go.Proofs.YtcbdpcalmafdiaaDoor
open Go.ChangeShapes Go.WideShapes Go.ChangeAt Go.RowKit

section
variable {H : Type} {enc : TypeId × Value → H} {P : Program} {w : World}
theorem pair_list (n : Nat) : ∀ (V0 V1 : Nat → Int), ∃ ws : List (Int × Int), ws.length = n ∧ ∀ j (h : j < ws.length), ws[j] = (V0 j, V1 j) := fun V0 V1 =>
  ⟨(List.range n).map (fun j => (V0 j, V1 j)), by simp, fun j h => by simp⟩
theorem rdw_of_trod {t e : TypeId} {f0 f1 : Field} {fuel : Nat} {v : Value} {y : DataW H × List MemPlace} (ht : P.underlying t = some (.slice e)) (he : P.underlying e = some (.struct #[f0, f1]))
    (hf : (f0.offset, f0.type, f1.offset, f1.type) = (0, 3, 1, 3)) (hC : P.cellsOf e = 2 ∧ P.cellsOf 3 = 1) (hi : P.underlying 3 = some (.int .i64))
    (h : DataW.trod enc P w 0 (fun _ => true) true fuel t [v] = some y) : ∃ ws, RdW w v ws ∧ ws.length ≤ 9223372036854775807 := by
  simp only [Prod.mk.injEq] at hf
  obtain ⟨o0, t0, o1, t1⟩ := hf
  rcases Deep.open_slice_pairs ht he hC.1 o0 o1 (by rw [t0]; exact hC.2) (by rw [t1]; exact hC.2) h with ⟨hcs, _⟩ | ⟨a, len, cap, m, n, V0, V1, D0, D1, P0, P1, hcs, _, hl, hm, hmm, _, hcell⟩
  · simp only [List.cons.injEq, and_true] at hcs
    subst hcs
    exact ⟨[], rdx_nil w 2, by simp⟩
  · simp only [List.cons.injEq, and_true] at hcs
    subst hcs
    simp only [if_true] at hmm
    subst hmm
    have hm' : m ≤ 9223372036854775807 := by unfold maxLen at hm; exact hm
    have hv : ∀ j, j < m → ∃ q : Int × Int, V0 j = .int .i64 q.1 ∧ V1 j = .int .i64 q.2 := by
      intro j hj
      obtain ⟨_, _, h0, h1⟩ := hcell j hj
      rw [t0] at h0
      rw [t1] at h1
      obtain ⟨x0, e0, _, _⟩ := DataW.trod_int hi h0
      obtain ⟨x1, e1, _, _⟩ := DataW.trod_int hi h1
      simp only [List.cons.injEq, and_true] at e0 e1
      exact ⟨(x0, x1), e0, e1⟩
    obtain ⟨q, hq⟩ := Deep.choose_lt hv
    obtain ⟨ws, hwl, hws⟩ := pair_list len (fun j => (q j).1) (fun j => (q j).2)
    refine ⟨ws, ⟨some a, m, by rw [hwl], by rw [hwl]; exact hl, by simp, prs_len ws, ?_⟩, by omega⟩
    by_cases h0 : len = 0
    · exact .inl (by rw [hwl]; exact h0)
    · obtain ⟨b, off, spot⟩ := a
      have hspot : spot = none := by simpa [Addr.add] using World.cell?_spot (hcell 0 (by omega)).1
      subst hspot
      have hadd : ∀ j, (⟨b, off, none⟩ : Addr).add j = ⟨b, off + j, none⟩ := fun j => by unfold Addr.add; split <;> simp_all
      refine .inr ⟨b, off, rfl, ?_, fun j u hu => ?_⟩
      · have := World.block_lt_of_cell? w _ (hcell 0 (by omega)).1; rw [hadd] at this; exact this
      · have hj : j < ws.length * 2 := by rw [← prs_len]; exact (List.getElem?_eq_some_iff.1 hu).1
        have hj2 : j / 2 < ws.length := by omega
        obtain ⟨c0, c1, _, _⟩ := hcell (j / 2) (by omega)
        obtain ⟨e0, e1⟩ := hq (j / 2) (by omega)
        have hw := hws (j / 2) hj2
        rw [hadd] at c0 c1
        have h2 : j = j / 2 * 2 ∨ j = j / 2 * 2 + 1 := by omega
        rcases h2 with h2 | h2
        · rw [h2, prs_1 ws _ hj2, hw] at hu
          rw [h2, c0, e0]; exact hu
        · rw [h2, prs_2 ws _ hj2, hw] at hu
          rw [h2, c1, e1]; exact hu
end
end Go.Proofs.YtcbdpcalmafdiaaDoor
