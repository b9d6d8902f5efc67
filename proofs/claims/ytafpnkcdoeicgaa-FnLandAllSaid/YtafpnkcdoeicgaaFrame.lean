/- Words for frames by intervals of blocks, and for slices of flights: nothing here names the program. -/
import Derived.Test.YtafpnkcdoeicgaaRow
import Derived.Test.YtafpnkcdoeicgaaDraw
namespace Go.Proofs.Ytafpnkcdoeicgaa
open Go.RowKit

/-- From w to w' only blocks from lo up to hi, and new ones, may have turned. -/
structure Fr (w w' : World) (lo hi : Nat) : Prop where
  os : w'.os = w.os
  tape : w'.tape = w.tape
  output : w'.output = w.output
  size : w.heap.size ≤ w'.heap.size
  block : ∀ k, k < w.heap.size → (k < lo ∨ hi ≤ k) → w'.heap[k]? = w.heap[k]?

section
variable {w w' w'' : World} {lo hi lo' hi' B B' C C' : Nat} {v u : Value} {xs : List Int}
theorem fr_b (h : Below w.heap.size w w') : Fr w w' lo hi := ⟨h.os, h.tape, h.output, h.size, fun k hk _ => h.block k hk⟩
theorem fr_refl (w : World) (lo hi : Nat) : Fr w w lo hi := fr_b (Below.refl _ _)
theorem fr_gr {row : Option Nat} (h : w.grownBy w' row) (hr : ∀ k, row = some k → lo ≤ k ∧ k < hi) : Fr w w' lo hi :=
  ⟨h.os, h.tape, h.output, h.size, fun k hk hk' => h.block k hk (fun e => by have := hr k e.symm; omega)⟩
theorem fr_set (w : World) (p : Addr) (x : Value) (hp : lo ≤ p.block ∧ p.block < hi) : Fr w (w.setCell p x) lo hi := fr_gr (gr_set w p x) (fun k hk => by injection hk with hk; omega)
theorem fr_trans (h : Fr w w' lo hi) (k : Fr w' w'' lo hi) : Fr w w'' lo hi :=
  ⟨k.os.trans h.os, k.tape.trans h.tape, k.output.trans h.output, Nat.le_trans h.size k.size, fun i hi hn => (k.block i (Nat.lt_of_lt_of_le hi h.size) hn).trans (h.block i hi hn)⟩
theorem fr_mono (h : Fr w w' lo hi) (h1 : lo' ≤ lo) (h2 : hi ≤ hi' ) : Fr w w' lo' hi' :=
  ⟨h.os, h.tape, h.output, h.size, fun i hi hn => h.block i hi (by omega)⟩
/-- What turns behind w alone is nothing to w. -/
theorem fr_new (h : Fr w w' lo hi) (k : Fr w' w'' lo' hi') (hn : w.heap.size ≤ lo') : Fr w w'' lo hi :=
  ⟨k.os.trans h.os, k.tape.trans h.tape, k.output.trans h.output, Nat.le_trans h.size k.size, fun i hi hh => (k.block i (Nat.lt_of_lt_of_le hi h.size) (by omega)).trans (h.block i hi hh)⟩
theorem fr_below (h : Fr w w' lo hi) (hl : w.heap.size ≤ lo) : Below w.heap.size w w' := ⟨h.os, h.tape, h.output, h.size, fun i hi => h.block i hi (by omega)⟩
theorem below_fr {a : World} (h : Below B a w) (k : Fr w w' lo hi) (h1 : B ≤ w.heap.size) (h2 : B ≤ lo) : Below B a w' :=
  ⟨k.os.trans h.os, k.tape.trans h.tape, k.output.trans h.output, Nat.le_trans h.size k.size, fun i hi => (k.block i (by omega) (by omega)).trans (h.block i hi)⟩
theorem cell_fr {p : Addr} {x : Value} (h : w.cell? p = some x) (k : Fr w w' lo hi) (hp : p.block < lo ∨ hi ≤ p.block) : w'.cell? p = some x := (World.cell?_of_block (k.block p.block (cell_lt h) hp)).trans h
theorem frz_fr {p : Addr} {b : Bool} (hl : p.block < w.heap.size) (h : w.frozen? p = b) (k : Fr w w' lo hi) (hp : p.block < lo ∨ hi ≤ p.block) : w'.frozen? p = b := (World.frozen?_of_block (k.block p.block hl hp)).trans h
theorem own_fr {b e s n : Nat} {cs : List Value} (h : w.ownsRow b e s v n cs) (k : Fr w w' lo hi) (hv : ∀ g, v.ownBlock = some g → g < lo ∨ hi ≤ g) : w'.ownsRow b e s v n cs := by
  obtain ⟨h1, h2⟩ := h
  refine ⟨h1, ?_⟩
  rcases h2 with h2 | ⟨g, cap, cur, rfl, hg, hh, r⟩
  · exact .inl h2
  · exact .inr ⟨g, cap, cur, rfl, hg, by rw [k.block g (Array.getElem?_eq_some_iff.1 hh).1 (hv g rfl)]; exact hh, r⟩
theorem rdx_fr {n c : Nat} {cs : List Value} (h : RdX w n v c cs) (k : Fr w w' lo hi) (hv : c ≠ 0 → ∀ g, v.ownBlock = some g → g < lo ∨ hi ≤ g) : RdX w' n v c cs := by
  obtain ⟨a, cap, rfl, hc, hn, hl, h5⟩ := h
  refine ⟨a, cap, rfl, hc, hn, hl, ?_⟩
  by_cases h0 : c = 0
  · exact .inl h0
  rcases h5 with h5 | ⟨g, off, rfl, hlt, hf⟩
  · exact .inl h5
  · exact .inr ⟨g, off, rfl, Nat.lt_of_lt_of_le hlt k.size, fun j x hx => cell_fr (hf j x hx) k (hv h0 g rfl)⟩
theorem rd_fr (h : Rd w v xs) (k : Fr w w' lo hi) (hv : xs.length ≠ 0 → ∀ g, v.ownBlock = some g → g < lo ∨ hi ≤ g) : Rd w' v xs := by
  obtain ⟨a, cap, rfl, hc, hn, h5⟩ := h
  refine ⟨a, cap, rfl, hc, hn, ?_⟩
  by_cases h0 : xs.length = 0
  · exact .inl h0
  rcases h5 with h5 | ⟨g, off, rfl, hlt, hf⟩
  · exact .inl h5
  · exact .inr ⟨g, off, rfl, Nat.lt_of_lt_of_le hlt k.size, fun j hj => cell_fr (hf j hj) k (hv h0 g rfl)⟩
theorem rd_lt (h : Rd w v xs) : xs.length = 0 ∨ ∀ g, v.ownBlock = some g → g < w.heap.size := by
  obtain ⟨a, cap, rfl, hc, hn, h5⟩ := h
  rcases h5 with h5 | ⟨g, off, rfl, hlt, hf⟩
  · exact .inl h5
  · exact .inr (fun g' hg' => by simp [Value.ownBlock] at hg'; omega)

/-- v reads as xs, and what holds it lies from block B on and ahead of C (nothing is asked of an empty slice). -/
def RdI (w : World) (B C : Nat) (v : Value) (xs : List Int) : Prop := Rd w v xs ∧ (xs.length ≠ 0 → ∀ g, v.ownBlock = some g → B ≤ g ∧ g < C)
theorem rdi_rd (h : RdI w B C v xs) : Rd w v xs := h.1
theorem rdi_mono (h : RdI w B C v xs) (h1 : B' ≤ B) (h2 : C ≤ C') : RdI w B' C' v xs := ⟨h.1, fun h0 g hg => ⟨Nat.le_trans h1 (h.2 h0 g hg).1, Nat.lt_of_lt_of_le (h.2 h0 g hg).2 h2⟩⟩
theorem rdi_fr (h : RdI w B C v xs) (k : Fr w w' lo hi) (hs : C ≤ lo ∨ hi ≤ B) : RdI w' B C v xs := ⟨rd_fr h.1 k (fun h0 g hg => by have := h.2 h0 g hg; omega), h.2⟩
theorem rdi_b (h : RdI w B C v xs) (hb : Below w.heap.size w w') : RdI w' B C v xs := ⟨rd_below h.1 hb, h.2⟩
theorem rdi_gs {r : Nat} (h : RdI w B C v xs) (hg : w.grownBy w' (some r)) (hr : r < B ∨ C ≤ r) : RdI w' B C v xs := rdi_fr h (fr_gr (lo := r) (hi := r + 1) hg (fun k hk => by injection hk with hk; omega)) (by omega)
theorem rdi_row {row : Option Nat} (h : RdI w B C v xs) (hg : w.grownBy w' row) (hr : ∀ k, row = some k → k < B ∨ C ≤ k) : RdI w' B C v xs := by
  rcases row with _ | r
  · exact rdi_fr h (fr_gr (lo := C) (hi := C) hg (fun k hk => by cases hk)) (.inl (Nat.le_refl _))
  · exact rdi_gs h hg (hr r rfl)
theorem rdi_set {p : Addr} (h : RdI w B C v xs) (hp : C ≤ p.block ∨ p.block < B) (x : Value) : RdI (w.setCell p x) B C v xs := rdi_row h (gr_set w p x) (fun k hk => by injection hk with hk; omega)
/-- v is a slice of one's own that holds xs; its row lies from block B on and ahead of C. -/
def OwI (w : World) (B C : Nat) (v : Value) (xs : List Int) : Prop := Ow w B v xs ∧ ∀ g, v.ownBlock = some g → g < C
theorem owi_rdi (h : OwI w B C v xs) : RdI w B C v xs := ⟨own_rd h.1, fun _ g hg => ⟨own_lo h.1 g hg, h.2 g hg⟩⟩
theorem owi_mono (h : OwI w B C v xs) (h1 : B' ≤ B) (h2 : C ≤ C') : OwI w B' C' v xs := ⟨own_base h.1 h1, fun g hg => Nat.lt_of_lt_of_le (h.2 g hg) h2⟩
theorem owi_fr (h : OwI w B C v xs) (k : Fr w w' lo hi) (hs : C ≤ lo ∨ hi ≤ B) : OwI w' B C v xs := ⟨own_fr h.1 k (fun g hg => by have := h.2 g hg; have := own_lo h.1 g hg; omega), h.2⟩
theorem owi_b (h : OwI w B C v xs) (hb : Below w.heap.size w w') : OwI w' B C v xs := ⟨own_below h.1 hb, h.2⟩
theorem ow_owi (h : Ow w B v xs) : OwI w B w.heap.size v xs := ⟨h, own_hi h⟩
end

/-- A flight with the value of its slice: key, owner, those that wait, the slice. -/
abbrev FT := Int × Int × List Int × Value
abbrev Fl := Int × Int × List Int
abbrev fl (t : FT) : Fl := (t.1, t.2.1, t.2.2.1)
abbrev fv (t : FT) : Value := t.2.2.2
abbrev fw (t : FT) : List Int := t.2.2.1
/-- Flights as cells. -/
def tcs (ts : List FT) : List Value := ts.flatMap fun t => [.int .i64 t.1, .int .i64 t.2.1, t.2.2.2]
theorem tcs_len (ts : List FT) : (tcs ts).length = ts.length * 3 := flat_len _ 3 (fun _ => rfl) ts
theorem tcs_nil : tcs [] = [] := rfl
theorem tcs_append (xs ys : List FT) : tcs (xs ++ ys) = tcs xs ++ tcs ys := by unfold tcs; rw [List.flatMap_append]
theorem tcs_at (ts : List FT) (j : Nat) (h : j < ts.length) : (tcs ts)[j * 3]? = some (.int .i64 ts[j].1) ∧ (tcs ts)[j * 3 + 1]? = some (.int .i64 ts[j].2.1) ∧ (tcs ts)[j * 3 + 2]? = some ts[j].2.2.2 := by
  have h0 := flat_get (fun t : FT => [Value.int .i64 t.1, .int .i64 t.2.1, t.2.2.2]) 3 (fun _ => rfl) ts j 0 h (by omega)
  have h1 := flat_get (fun t : FT => [Value.int .i64 t.1, .int .i64 t.2.1, t.2.2.2]) 3 (fun _ => rfl) ts j 1 h (by omega)
  have h2 := flat_get (fun t : FT => [Value.int .i64 t.1, .int .i64 t.2.1, t.2.2.2]) 3 (fun _ => rfl) ts j 2 h (by omega)
  exact ⟨by simpa [tcs] using h0, by simpa [tcs] using h1, by simpa [tcs] using h2⟩
theorem rd_sl {w : World} {v : Value} {xs : List Int} (h : Rd w v xs) : ∃ a cap, v = .slice a xs.length cap := by
  obtain ⟨a, cap, hv, _⟩ := h; exact ⟨a, cap, hv⟩

/-- v reads as the flights ts; all that holds them lies from block B on and ahead of C. -/
def RdF (w : World) (B C : Nat) (v : Value) (ts : List FT) : Prop :=
  RdX w 3 v ts.length (tcs ts) ∧ (ts.length ≠ 0 → ∀ g, v.ownBlock = some g → B ≤ g ∧ g < C) ∧ (∀ t ∈ ts, RdI w B C (fv t) (fw t)) ∧ C ≤ w.heap.size
/-- v is a slice of flights of one's own, and so are the slices within; no two lie in one block. -/
def OwF (w : World) (T B C : Nat) (v : Value) (ts : List FT) : Prop :=
  w.ownsRow B T 3 v ts.length (tcs ts) ∧ (∀ g, v.ownBlock = some g → g < C) ∧ (∀ t ∈ ts, OwI w B C (fv t) (fw t)) ∧ (∀ t ∈ ts, NE v (fv t)) ∧ (ts.map fv).Pairwise NE ∧ C ≤ w.heap.size

section
variable {w w' : World} {lo hi T B B' C C' : Nat} {v : Value} {ts : List FT}
theorem rdf_mono (h : RdF w B C v ts) (h1 : B' ≤ B) (h2 : C ≤ C') (h3 : C' ≤ w.heap.size) : RdF w B' C' v ts :=
  ⟨h.1, fun h0 g hg => ⟨Nat.le_trans h1 (h.2.1 h0 g hg).1, Nat.lt_of_lt_of_le (h.2.1 h0 g hg).2 h2⟩, fun t ht => rdi_mono (h.2.2.1 t ht) h1 h2, h3⟩
theorem rdf_fr (h : RdF w B C v ts) (k : Fr w w' lo hi) (hs : C ≤ lo ∨ hi ≤ B) : RdF w' B C v ts :=
  ⟨rdx_fr h.1 k (fun h0 g hg => by have := h.2.1 h0 g hg; omega), h.2.1, fun t ht => rdi_fr (h.2.2.1 t ht) k hs, Nat.le_trans h.2.2.2 k.size⟩
theorem rdf_b (h : RdF w B C v ts) (hb : Below w.heap.size w w') : RdF w' B C v ts := rdf_fr h (fr_b (lo := C) (hi := C) hb) (.inl (Nat.le_refl _))
theorem rdf_gs {r : Nat} (h : RdF w B C v ts) (hg : w.grownBy w' (some r)) (hr : r < B ∨ C ≤ r) : RdF w' B C v ts := rdf_fr h (fr_gr (lo := r) (hi := r + 1) hg (fun k hk => by injection hk with hk; omega)) (by omega)
theorem rdf_row {row : Option Nat} (h : RdF w B C v ts) (hg : w.grownBy w' row) (hr : ∀ k, row = some k → k < B ∨ C ≤ k) : RdF w' B C v ts := by
  rcases row with _ | r
  · exact rdf_fr h (fr_gr (lo := C) (hi := C) hg (fun k hk => by cases hk)) (.inl (Nat.le_refl _))
  · exact rdf_fr h (fr_gr (lo := r) (hi := r + 1) hg (fun k hk => by injection hk with hk; omega)) (by have := hr r rfl; omega)
theorem rdf_set {p : Addr} (h : RdF w B C v ts) (hp : C ≤ p.block ∨ p.block < B) (x : Value) : RdF (w.setCell p x) B C v ts :=
  rdf_row h (gr_set w p x) (fun k hk => by injection hk with hk; omega)
theorem rdf_nil (w : World) (B : Nat) : RdF w B 0 (.slice none 0 0) [] := ⟨rdx_nil w 3, fun h0 => absurd rfl h0, fun t h => by simp at h, Nat.zero_le _⟩
theorem owf_rdf (h : OwF w T B C v ts) : RdF w B C v ts := ⟨own_rdx h.1, fun _ g hg => ⟨own_lo h.1 g hg, h.2.1 g hg⟩, fun t ht => owi_rdi (h.2.2.1 t ht), h.2.2.2.2.2⟩
theorem owf_mono (h : OwF w T B C v ts) (h1 : B' ≤ B) (h2 : C ≤ C') (h3 : C' ≤ w.heap.size) : OwF w T B' C' v ts :=
  ⟨own_base h.1 h1, fun g hg => Nat.lt_of_lt_of_le (h.2.1 g hg) h2, fun t ht => owi_mono (h.2.2.1 t ht) h1 h2, h.2.2.2.1, h.2.2.2.2.1, h3⟩
theorem owf_fr (h : OwF w T B C v ts) (k : Fr w w' lo hi) (hs : C ≤ lo ∨ hi ≤ B) : OwF w' T B C v ts :=
  ⟨own_fr h.1 k (fun g hg => by have := h.2.1 g hg; have := own_lo h.1 g hg; omega), h.2.1, fun t ht => owi_fr (h.2.2.1 t ht) k hs, h.2.2.2.1, h.2.2.2.2.1, Nat.le_trans h.2.2.2.2.2 k.size⟩
theorem owf_b (h : OwF w T B C v ts) (hb : Below w.heap.size w w') : OwF w' T B C v ts := owf_fr h (fr_b (lo := C) (hi := C) hb) (.inl (Nat.le_refl _))
/-- The flights' cells. -/
theorem rdf_cells (h : RdF w B C v ts) : ∃ a cap, v = .slice a ts.length cap ∧ ts.length ≤ cap ∧ (a = none → cap = 0) ∧
    (ts.length = 0 ∨ ∃ g off, a = some ⟨g, off, none⟩ ∧ g < w.heap.size ∧ B ≤ g ∧ g < C ∧ ∀ j (hj : j < ts.length), w.cell? ⟨g, off + j * 3, none⟩ = some (.int .i64 ts[j].1) ∧ w.cell? ⟨g, off + j * 3 + 1, none⟩ = some (.int .i64 ts[j].2.1) ∧ w.cell? ⟨g, off + j * 3 + 2, none⟩ = some ts[j].2.2.2) := by
  obtain ⟨⟨a, cap, rfl, hc, hn, hl, h5⟩, h2, h3, h4⟩ := h
  refine ⟨a, cap, rfl, hc, hn, ?_⟩
  by_cases h0 : ts.length = 0
  · exact .inl h0
  rcases h5 with h5 | ⟨g, off, rfl, hlt, hf⟩
  · exact .inl h5
  · refine .inr ⟨g, off, rfl, hlt, (h2 h0 g rfl).1, (h2 h0 g rfl).2, fun j hj => ?_⟩
    obtain ⟨e1, e2, e3⟩ := tcs_at ts j hj
    exact ⟨hf _ _ e1, by rw [Nat.add_assoc]; exact hf _ _ e2, by rw [Nat.add_assoc]; exact hf _ _ e3⟩
theorem rdf_in (h : RdF w B C v ts) {j : Nat} (hj : j < ts.length) : RdI w B C ts[j].2.2.2 ts[j].2.2.1 := h.2.2.1 _ (List.getElem_mem hj)
theorem rdf_rd (h : RdF w B C v ts) {j : Nat} (hj : j < ts.length) : Rd w ts[j].2.2.2 ts[j].2.2.1 := (rdf_in h hj).1
end

/-- How many values flights hold. -/
def fsum : List Fl → Nat
  | [] => 0
  | f :: fs => f.2.2.length + fsum fs
theorem fsum_append (xs ys : List Fl) : fsum (xs ++ ys) = fsum xs + fsum ys := by
  induction xs with
  | nil => simp [fsum]
  | cons x xs ih => simp [fsum, ih]; omega
theorem fsum_take_succ {xs : List Fl} {k : Nat} (h : k < xs.length) : fsum (xs.take (k + 1)) = fsum (xs.take k) + xs[k].2.2.length := by
  rw [List.take_succ_eq_append_getElem h, fsum_append]; simp [fsum]
theorem fsum_take_le (xs : List Fl) (k : Nat) : fsum (xs.take k) ≤ fsum xs := by
  have h := fsum_append (xs.take k) (xs.drop k); rw [List.take_append_drop] at h; omega
/-- Equal flights. -/
def eqL (xs ys : List Fl) : Bool := decide (xs = ys)
theorem eqL_len {xs ys : List Fl} (h : xs.length ≠ ys.length) : eqL xs ys = false := decide_eq_false (fun e => h (by rw [e]))
theorem eqL_self (xs : List Fl) : eqL xs xs = true := decide_eq_true rfl
def eqT (a b : Fl) : Bool := decide (a.1 = b.1) && decide (a.2.1 = b.2.1) && eqB a.2.2 b.2.2
theorem eqT_true {a b : Fl} (h : eqT a b = true) : a = b := by
  obtain ⟨a1, a2, a3⟩ := a; obtain ⟨b1, b2, b3⟩ := b
  simp only [eqT, eqB, Bool.and_eq_true, decide_eq_true_eq] at h
  obtain ⟨⟨rfl, rfl⟩, rfl⟩ := h; rfl
theorem eqT_false {a b : Fl} (h : eqT a b = false) : a ≠ b := by
  intro e; subst e; simp [eqT, eqB] at h
theorem eqT_self (a : Fl) : eqT a a = true := by simp [eqT, eqB]
theorem eqL_bad {xs ys : List Fl} {k : Nat} (h : k < xs.length) (h' : k < ys.length) (hx : eqT xs[k] ys[k] = false) : eqL xs ys = false :=
  decide_eq_false (fun e => by subst e; exact eqT_false hx rfl)
theorem eqL_all {xs ys : List Fl} {k : Nat} (hl : xs.length = ys.length) (h : xs.length ≤ k) (ht : xs.take k = ys.take k) : eqL xs ys = true := by
  rw [List.take_of_length_le h, List.take_of_length_le (by omega)] at ht
  exact decide_eq_true ht
theorem takeL_succ {xs ys : List Fl} {k : Nat} (h : k < xs.length) (h' : k < ys.length) (ht : xs.take k = ys.take k) (hx : eqT xs[k] ys[k] = true) : xs.take (k + 1) = ys.take (k + 1) := by
  rw [List.take_succ_eq_append_getElem h, List.take_succ_eq_append_getElem h', ht, eqT_true hx]
theorem map_fl_len (ts : List FT) : (ts.map fl).length = ts.length := by simp
theorem map_fl_get {ts : List FT} {k : Nat} (h : k < ts.length) (h' : k < (ts.map fl).length) : (ts.map fl)[k] = fl ts[k] := by simp
end Go.Proofs.Ytafpnkcdoeicgaa
