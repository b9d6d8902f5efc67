/- LandFlight of the program, to be read; for laws that draw their input. -/
import Derived.Test.YtafpnkcdoeicgaaLandI
import Derived.Test.YtafpnkcdoeicgaaLandS
import Derived.Test.YtafpnkcdoeicgaaPlainFlight
import Derived.Test.YtafpnkcdoeicgaaFlightCode
namespace Go.Proofs.Ytafpnkcdoeicgaa
open Go.RowKit

theorem I_LandFlight_s (w : World) (B C : Nat) (v : Value) (ts : List FT) (key t : Int) (hr : RdF w B C v ts) (hl : ts.length + tsum ts ≤ 4294967296) :
    Calls Try.prog 24 #[v, .int .i64 key, .int .i64 t] w (LandS w (ts.map fl) key t) :=
  (I_LandFlight w B C v ts key t hr hl).mono fun _ _ h => landi_s h
theorem getD_in {xs : List Int} {j : Nat} (h : j < xs.length) : xs.getD j 0 = xs[j] := by simp [List.getD, h]
theorem rdi_cells {w : World} {B C n cap : Nat} {a : Option Addr} {xs : List Int} (h : RdI w B C (.slice a n cap) xs) (h0 : 0 < n) : n = xs.length ∧ n ≤ cap ∧ ∃ g off, a = some ⟨g, off, none⟩ ∧ ∀ j (hj : j < xs.length), w.cell? ⟨g, off + j, none⟩ = some (.int .i64 xs[j]) := by
  obtain ⟨⟨a', cap', hv, hc, hn, h5⟩, _⟩ := h
  simp only [Value.slice.injEq] at hv
  obtain ⟨rfl, rfl, rfl⟩ := hv
  rcases h5 with h5 | ⟨g, off, rfl, hlt, hf⟩
  · omega
  · exact ⟨rfl, hc, g, off, rfl, fun j hj => by rw [hf j hj, getD_in hj]⟩
theorem rdi_take {w : World} {B C n cap k : Nat} {a : Option Addr} {xs : List Int} (h : RdI w B C (.slice a n cap) xs) (hk : k ≤ xs.length) : RdI w B C (.slice a k cap) (xs.take k) := by
  obtain ⟨⟨a', cap', hv, hc, hn, h5⟩, h2⟩ := h
  simp only [Value.slice.injEq] at hv
  obtain ⟨rfl, rfl, rfl⟩ := hv
  have hl : (xs.take k).length = k := by simp; omega
  refine ⟨⟨a, cap, by rw [hl], by omega, hn, ?_⟩, fun h0 g hg => h2 (by omega) g (by cases a <;> exact hg)⟩
  rcases h5 with h5 | ⟨g, off, rfl, hlt, hf⟩
  · left; omega
  · exact .inr ⟨g, off, rfl, hlt, fun j hj => by rw [getD_in hj, List.getElem_take, hf j (by omega), getD_in (by omega)]⟩
end Go.Proofs.Ytafpnkcdoeicgaa
