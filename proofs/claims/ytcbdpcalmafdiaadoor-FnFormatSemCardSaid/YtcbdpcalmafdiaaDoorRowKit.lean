/- How an argument that is read becomes what the walks ask for. -/
import Derived.Test.YtcbdpcalmafdiaaDoorBase
import Derived.ProofKit
import Derived.Lib.SmallJoins
namespace Go.Proofs.YtcbdpcalmafdiaaDoor
open Go.ChangeShapes Go.WideShapes Go.ChangeAt Go.RowKit

section
variable {H : Type} {enc : TypeId × Value → H} {P : Program} {w : World} {base : Nat} {spare : Nat → Bool} {held : Bool}

theorem array1 {α : Type} {cs : Array α} (h : cs.size = 1) : ∃ c0, cs = #[c0] := by
  obtain ⟨l⟩ := cs
  match l, h with
  | [c0], _ => exact ⟨c0, rfl⟩

theorem open_agg1 {r : Reach} {b0 : Nat} {t : TypeId} {f0 : Field} {v : Value} {d : DataW H} {p : List MemPlace} (hs : P.underlying t = some (.struct #[f0])) (hone : Deep.oneCellFields P #[f0] = true) (hC : P.cellsOf t = 1)
    (hv : Value.okWide P w r b0 t v) (h : DataW.Trod enc P w base spare held t v d p) :
    ∃ (v0 : Value) (y0 : DataW H × List MemPlace) (n : Nat), v = .agg #[v0] ∧ d = .agg [y0.1] ∧ p = y0.2 ∧ DataW.trod enc P w base spare held n f0.type [v0] = some y0 := by
  obtain ⟨cs, rfl, hsz⟩ := okWide_struct hs hv
  obtain ⟨c0, rfl⟩ := array1 (hsz.trans hC)
  obtain ⟨fuel, hf⟩ := h
  obtain ⟨y0, n, hx, _, h0⟩ := trod_struct1 hs hf
  obtain ⟨o0, k0⟩ := Deep.hone_of hone 0 f0 rfl
  simp only [Prod.mk.injEq] at hx
  exact ⟨c0, y0, n, rfl, hx.1, hx.2, by simpa [Value.cells, o0, k0] using h0⟩

theorem rd_of_trod {t : TypeId} {fuel : Nat} {v : Value} {y : DataW H × List MemPlace} (ht : P.underlying t = some (.slice 3)) (he : P.underlying 3 = some (.int .i64)) (hc : P.cellsOf 3 = 1)
    (hf : DataW.trod enc P w 0 (fun _ => true) true fuel t [v] = some y) : ∃ xs, Rd w v xs ∧ xs.length ≤ 9223372036854775807 := by
  rcases open_ints ht he hc hf with ⟨hcs, _⟩ | ⟨a, len, cap, zs, hcs, _, hl, hm, hz, _, hcell, _⟩
  · simp only [List.cons.injEq, and_true] at hcs
    subst hcs
    exact ⟨[], rd_nil w, by simp⟩
  · simp only [List.cons.injEq, and_true] at hcs
    subst hcs
    simp only [if_true] at hz
    have hlen : (zs.take len).length = len := by simp; omega
    have hm' : cap ≤ 9223372036854775807 := by unfold maxLen at hm; exact hm
    refine ⟨zs.take len, ⟨some a, cap, by rw [hlen], by rw [hlen]; exact hl, by simp, ?_⟩, by rw [hlen]; omega⟩
    by_cases h0 : len = 0
    · exact .inl (by rw [hlen]; exact h0)
    · obtain ⟨b, off, spot⟩ := a
      have hspot : spot = none := by simpa [Addr.add] using World.cell?_spot (hcell 0 (by omega))
      subst hspot
      have hadd : ∀ j, (⟨b, off, none⟩ : Addr).add j = ⟨b, off + j, none⟩ := fun j => by unfold Addr.add; split <;> simp_all
      refine .inr ⟨b, off, rfl, ?_, fun j hj => ?_⟩
      · have := World.block_lt_of_cell? w _ (hcell 0 (by omega)); rw [hadd] at this; exact this
      · rw [hlen] at hj
        have h1 := hcell j (by omega)
        rw [hadd] at h1
        rw [h1, show (zs.take len).getD j 0 = zs.getD j 0 by simp [List.getD, hj]]
end
end Go.Proofs.YtcbdpcalmafdiaaDoor
