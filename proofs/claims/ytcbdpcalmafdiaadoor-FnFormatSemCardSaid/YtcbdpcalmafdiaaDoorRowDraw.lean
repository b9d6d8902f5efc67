/- More words for slices of waiters: where a reader of draws is at hand. -/
import Derived.Test.YtcbdpcalmafdiaaDoorWaiter
import Derived.Test.YtcbdpcalmafdiaaDoorGuard
namespace Go.Proofs.YtcbdpcalmafdiaaDoor
open Go.RowKit

theorem rdxb_set {w : World} {k B n : Nat} {v : Value} {cs : List Value} {p : Addr} (h : RdXB w k B v n cs) (hp : ∀ g, v.ownBlock = some g → g ≠ p.block) (u : Value) : RdXB (w.setCell p u) k B v n cs :=
  rdxb_gr h (gr_set w p u) (fun g g' h1 h2 => by injection h1 with h1; have := hp g' h2; omega)
/-- A row of one waiter as a literal lays it. -/
theorem rdx_lit1 (w : World) (x y : Int) (T g : Nat) (hg : g = w.heap.size) : RdX (w.alloc (.cells #[.int .i64 x, .int .i64 y] T)) 2 (.slice (some ⟨g, 0, none⟩) 1 1) 1 (prs [(x, y)]) := by
  subst hg
  refine ⟨_, _, rfl, Nat.le_refl _, by simp, rfl, .inr ⟨_, _, rfl, by simp, fun j u hu => ?_⟩⟩
  have hc : (w.alloc (.cells #[.int .i64 x, .int .i64 y] T)).cell? ⟨w.heap.size, 0 + j, none⟩ = (#[.int .i64 x, .int .i64 y] : Array Value)[j]? := by
    rw [Nat.zero_add]; exact cell_of_row _ _ j _ T (0, 0) (heap_alloc_new w _)
  rw [hc, ← Array.getElem?_toList]
  exact hu
theorem owp_made_at (w : World) (b g : Nat) (hg : g = w.heap.size) (hb : b ≤ g) : (w.alloc (.cells #[] 42)).ownsRow b 42 2 (.slice (some ⟨g, 0, none⟩) 0 0) 0 [] := by
  subst hg; exact World.ownsRow_made w #[] 0 hb (by unfold maxLen; omega) rfl
theorem owp_eq {w : World} {b : Nat} {v : Value} {n : Nat} {xs ys : List (Int × Int)} (h : w.ownsRow b 42 2 v n (prs ys)) (e : ys = xs) (hn : n = xs.length) : OwP w b v xs := by
  subst e; subst hn; exact h
/-- The first waiter of a row, and the others. -/
theorem rdwb_uncons {w : World} {B : Nat} {a : Option Addr} {n cap : Nat} {x : Int × Int} {ys : List (Int × Int)} (h : RdXB w 2 B (.slice a n cap) n (prs (x :: ys))) :
    ∃ g off, a = some ⟨g, off, none⟩ ∧ n = ys.length + 1 ∧ ys.length + 1 ≤ cap ∧ w.cell? ⟨g, off, none⟩ = some (.int .i64 x.1) ∧ w.cell? ⟨g, off + 1, none⟩ = some (.int .i64 x.2) ∧ g < w.heap.size ∧ B ≤ g ∧
      ∀ o, (o = off + 2 ∨ ys = []) → RdWB w B (.slice (some ⟨g, o, none⟩) ys.length (cap - 1)) ys := by
  obtain ⟨⟨a', cap', hv, hc, hn, hl, h5⟩, h2⟩ := h
  simp only [Value.slice.injEq] at hv
  obtain ⟨rfl, _, rfl⟩ := hv
  rw [prs_len, List.length_cons] at hl
  obtain rfl : n = ys.length + 1 := by omega
  rcases h5 with h5 | ⟨g, o, rfl, hlt, hf⟩
  · omega
  · have hb := h2 g (by simp [Value.ownBlock])
    refine ⟨g, o, rfl, rfl, hc, ?_, ?_, hlt, hb.1, fun o' ho => ⟨⟨_, _, rfl, by omega, by simp, prs_len ys, ?_⟩, fun g' hg' => h2 g' (by simpa [Value.ownBlock] using hg')⟩⟩
    · have := hf 0 _ (prs_1 (x :: ys) 0 (by simp))
      simpa using this
    · have := hf 1 _ (prs_2 (x :: ys) 0 (by simp))
      simpa using this
    · rcases ho with rfl | rfl
      · refine .inr ⟨g, o + 2, rfl, hlt, fun j u hu => ?_⟩
        have := hf (j + 2) u (by
          show (prs (x :: ys))[j + 2]? = some u
          unfold prs at hu ⊢
          rw [List.flatMap_cons, List.getElem?_append_right (by simp)]
          simpa using hu)
        rw [show o + 2 + j = o + (j + 2) by omega]
        exact this
      · exact .inl rfl
end Go.Proofs.YtcbdpcalmafdiaaDoor
