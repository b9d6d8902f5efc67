/- How a code that is read becomes what the walks ask for. -/
import Derived.Test.YtcbdpcalmafdiaaDoorRowKit
import Derived.Test.YtcbdpcalmafdiaaDoorDraw
namespace Go.Proofs.YtcbdpcalmafdiaaDoor
open Go.ChangeShapes Go.WideShapes Go.ChangeAt Go.RowKit

section
variable {H : Type} {enc : TypeId × Value → H} {P : Program} {w : World}
theorem rdy_of_trod {t : TypeId} {fuel : Nat} {v : Value} {y : DataW H × List MemPlace} (ht : P.underlying t = some (.slice 5)) (he : P.underlying 5 = some (.int .u8)) (hc : P.cellsOf 5 = 1)
    (hf : DataW.trod enc P w 0 (fun _ => true) true fuel t [v] = some y) : ∃ n, RdY w v n ∧ n ≤ 9223372036854775807 := by
  rcases open_ints ht he hc hf with ⟨hcs, _⟩ | ⟨a, len, cap, zs, hcs, _, hl, hm, hz, _, hcell, hwf⟩
  · simp only [List.cons.injEq, and_true] at hcs
    subst hcs
    exact ⟨0, ⟨none, 0, rfl, by omega, by simp, .inl rfl⟩, by omega⟩
  · simp only [List.cons.injEq, and_true] at hcs
    subst hcs
    simp only [if_true] at hz
    have hm' : cap ≤ 9223372036854775807 := by unfold maxLen at hm; exact hm
    refine ⟨len, ⟨some a, cap, rfl, hl, by simp, ?_⟩, by omega⟩
    by_cases h0 : len = 0
    · exact .inl h0
    · obtain ⟨b, off, spot⟩ := a
      have hspot : spot = none := by simpa [Addr.add] using World.cell?_spot (hcell 0 (by omega))
      subst hspot
      have hadd : ∀ j, (⟨b, off, none⟩ : Addr).add j = ⟨b, off + j, none⟩ := fun j => by unfold Addr.add; split <;> simp_all
      refine .inr ⟨b, off, rfl, ?_, fun j => (zs.getD j 0).toNat, fun j hj => ?_⟩
      · have := World.block_lt_of_cell? w _ (hcell 0 (by omega)); rw [hadd] at this; exact this
      · have h1 := hcell j (by omega)
        rw [hadd] at h1
        have hj' : j < zs.length := by omega
        have h2 := hwf (zs.getD j 0) (by simp only [List.getD, List.getElem?_eq_getElem hj', Option.getD_some]; exact List.getElem_mem hj')
        have h3 := bounds_u8 h2
        rw [h1]
        refine ⟨?_, (by show (zs.getD j 0).toNat ≤ 255; omega)⟩
        show some (Value.int .u8 (zs.getD j 0)) = some (.int .u8 ((zs.getD j 0).toNat : Int))
        rw [show ((zs.getD j 0).toNat : Int) = zs.getD j 0 by omega]
end
end Go.Proofs.YtcbdpcalmafdiaaDoor
