/- How a slice of flights that is read becomes what the walks ask for. -/
import Derived.Test.YtafpnkcdoeicgaaRowKit
import Derived.Test.YtafpnkcdoeicgaaFrame
import Derived.Deep.SlicePairs
namespace Go.Proofs.Ytafpnkcdoeicgaa
open Go.ChangeShapes Go.WideShapes Go.ChangeAt Go.RowKit

section
variable {H : Type} {enc : TypeId × Value → H} {P : Program} {w : World}
theorem rd_blk {v : Value} {xs : List Int} (h : Rd w v xs) : RdI w 0 w.heap.size v xs := by
  refine ⟨h, fun h0 g hg => ⟨Nat.zero_le _, ?_⟩⟩
  obtain ⟨a, cap, rfl, hc, hn, h5⟩ := h
  rcases h5 with h5 | ⟨g', off, rfl, hlt, hf⟩
  · exact absurd h5 h0
  · simp [Value.ownBlock] at hg; omega
theorem ft_list (n : Nat) : ∀ (q : Nat → FT), ∃ ts : List FT, ts.length = n ∧ ∀ j (h : j < ts.length), ts[j] = q j := fun q =>
  ⟨(List.range n).map q, by simp, fun j h => by simp⟩
theorem rdf_of_trod {t e s : TypeId} {f0 f1 f2 : Field} {fuel : Nat} {v : Value} {y : DataW H × List MemPlace} (ht : P.underlying t = some (.slice e)) (he : P.underlying e = some (.struct #[f0, f1, f2]))
    (hf : (f0.offset, f0.type, f1.offset, f1.type, f2.offset, f2.type) = (0, 3, 1, 3, 2, s)) (hC : P.cellsOf e = 3 ∧ P.cellsOf 3 = 1 ∧ P.cellsOf s = 1) (hi : P.underlying 3 = some (.int .i64)) (hs : P.underlying s = some (.slice 3))
    (h : DataW.trod enc P w 0 (fun _ => true) true fuel t [v] = some y) : ∃ ts, RdF w 0 w.heap.size v ts ∧ ts.length ≤ 9223372036854775807 ∧ ∀ t ∈ ts, t.2.2.1.length ≤ 9223372036854775807 := by
  simp only [Prod.mk.injEq] at hf
  obtain ⟨o0, t0, o1, t1, o2, t2⟩ := hf
  obtain ⟨ce, c3, cs1⟩ := hC
  rcases Deep.open_slice ht h with ⟨hcs, _⟩ | ⟨a, len, cap, m, n, D, Pl, hcs, _, hl, hm, hmm, _, hx⟩
  · simp only [List.cons.injEq, and_true] at hcs
    subst hcs
    exact ⟨[], ⟨rdx_nil w 3, fun h0 => absurd rfl h0, fun t h => by simp at h, Nat.le_refl _⟩, by simp, fun t h => by simp at h⟩
  · simp only [List.cons.injEq, and_true] at hcs
    subst hcs
    simp only [if_true] at hmm
    subst hmm
    have hm' : m ≤ 9223372036854775807 := by unfold maxLen at hm; exact hm
    have each : ∀ i, i < m → ∃ q : FT, w.cell? (a.add (i * 3)) = some (.int .i64 q.1) ∧ w.cell? (a.add (i * 3 + 1)) = some (.int .i64 q.2.1) ∧ w.cell? (a.add (i * 3 + 2)) = some q.2.2.2 ∧ Rd w q.2.2.2 q.2.2.1 ∧ q.2.2.1.length ≤ 9223372036854775807 := by
      intro i hi2
      obtain ⟨cs', h1, h2⟩ := hx i hi2
      rw [ce] at h1
      obtain ⟨_, hlen, hcell⟩ := World.cells?_some h1
      obtain ⟨xs, k, hk, hxy, _, hxl, hf⟩ := DataW.trod_struct he h2
      match xs, hxl, cs', hlen with
      | [y0, y1, y2], _, [v0, v1, v2], _ =>
        have g0 := hf 0 f0 rfl
        have g1 := hf 1 f1 rfl
        have g2 := hf 2 f2 rfl
        simp [o0, o1, o2, t0, t1, t2, c3, cs1] at g0 g1 g2
        have e0 := hcell 0 (by omega)
        have e1 := hcell 1 (by omega)
        have e2 := hcell 2 (by omega)
        rw [Deep.add_add] at e0 e1 e2
        obtain ⟨x0, d0, _, _⟩ := DataW.trod_int hi g0
        obtain ⟨x1, d1, _, _⟩ := DataW.trod_int hi g1
        obtain ⟨ws, hw, hwl⟩ := rd_of_trod hs hi c3 g2
        simp only [List.cons.injEq, and_true] at d0 d1
        subst d0; subst d1
        exact ⟨(x0, x1, ws, v2), by simpa using e0, by simpa using e1, by simpa using e2, hw, hwl⟩
    haveI : Inhabited FT := ⟨(0, 0, [], .slice none 0 0)⟩
    obtain ⟨q, hq⟩ := Deep.choose_lt each
    obtain ⟨ts, htl, hts⟩ := ft_list len q
    have hmem : ∀ t ∈ ts, ∃ j, j < len ∧ t = q j := by
      intro t ht
      obtain ⟨j, hj, rfl⟩ := List.getElem_of_mem ht
      exact ⟨j, by omega, hts j hj⟩
    have hmain : RdX w 3 (.slice (some a) len m) ts.length (tcs ts) := by
      refine ⟨some a, m, by rw [htl], by rw [htl]; exact hl, by simp, tcs_len ts, ?_⟩
      by_cases h0 : len = 0
      · exact .inl (by rw [htl]; exact h0)
      · obtain ⟨b, off, spot⟩ := a
        have hspot : spot = none := by simpa [Addr.add] using World.cell?_spot (hq 0 (by omega)).1
        subst hspot
        have hadd : ∀ j, (⟨b, off, none⟩ : Addr).add j = ⟨b, off + j, none⟩ := fun j => by unfold Addr.add; split <;> simp_all
        refine .inr ⟨b, off, rfl, ?_, fun j u hu => ?_⟩
        · have := World.block_lt_of_cell? w _ (hq 0 (by omega)).1; rw [hadd] at this; exact this
        · have hj : j < ts.length * 3 := by rw [← tcs_len]; exact (List.getElem?_eq_some_iff.1 hu).1
          have hj2 : j / 3 < ts.length := by omega
          obtain ⟨c0, c1, c2, _, _⟩ := hq (j / 3) (by omega)
          obtain ⟨u0, u1, u2⟩ := tcs_at ts (j / 3) hj2
          rw [hts (j / 3) hj2] at u0 u1 u2
          rw [hadd] at c0 c1 c2
          have h3 : j = j / 3 * 3 ∨ j = j / 3 * 3 + 1 ∨ j = j / 3 * 3 + 2 := by omega
          rcases h3 with h3 | h3 | h3
          · rw [h3, u0] at hu; rw [h3, c0]; exact hu
          · rw [h3, u1] at hu; rw [h3, c1]; exact hu
          · rw [h3, u2] at hu; rw [h3, c2]; exact hu
    refine ⟨ts, ⟨hmain, fun h0 g hg => ⟨Nat.zero_le _, ?_⟩, fun t ht => ?_, Nat.le_refl _⟩, by omega, fun t ht => ?_⟩
    · obtain ⟨a', cap', e', _, _, _, h5⟩ := hmain
      simp only [Value.slice.injEq] at e'
      rcases h5 with h5 | ⟨g', off, e2, hlt, _⟩
      · exact absurd h5 h0
      · rw [← e'.1] at e2
        simp only [Option.some.injEq] at e2
        subst e2
        simp [Value.ownBlock] at hg; omega
    · obtain ⟨j, hj, rfl⟩ := hmem t ht
      exact rd_blk (hq j (by omega)).2.2.2.1
    · obtain ⟨j, hj, rfl⟩ := hmem t ht
      exact (hq j (by omega)).2.2.2.2
end
end Go.Proofs.Ytafpnkcdoeicgaa
