/- More words for slices of flights of one's own: what an append and a store do to them. -/
import Derived.Test.YtafpnkcdoeicgaaFrame
namespace Go.Proofs.Ytafpnkcdoeicgaa
open Go.RowKit

theorem tcs_one {ts : List FT} (h : ∀ t ∈ ts, ∃ a n c, fv t = .slice a n c) : ∀ u ∈ tcs ts, u.oneCell' = true := by
  intro u hu; unfold tcs at hu; rw [List.mem_flatMap] at hu
  obtain ⟨x, hx, hm⟩ := hu
  simp only [List.mem_cons, List.not_mem_nil, or_false] at hm
  rcases hm with rfl | rfl | rfl
  · rfl
  · rfl
  · obtain ⟨a, n, c, e⟩ := h x hx
    rw [show x.2.2.2 = .slice a n c from e]; rfl
/-- A row of one flight as a literal lays it. -/
theorem rdx_lit3 (w : World) (x y : Int) (v : Value) (xs : List Int) (T g : Nat) (hg : g = w.heap.size) : RdX (w.alloc (.cells #[.int .i64 x, .int .i64 y, v] T)) 3 (.slice (some ⟨g, 0, none⟩) 1 1) 1 (tcs [(x, y, xs, v)]) := by
  subst hg
  refine ⟨_, _, rfl, Nat.le_refl _, by simp, rfl, .inr ⟨_, _, rfl, by simp, fun j u hu => ?_⟩⟩
  have hc : (w.alloc (.cells #[.int .i64 x, .int .i64 y, v] T)).cell? ⟨w.heap.size, 0 + j, none⟩ = (#[.int .i64 x, .int .i64 y, v] : Array Value)[j]? := by
    rw [Nat.zero_add]; exact cell_of_row _ _ j _ T (0, 0) (heap_alloc_new w _)
  rw [hc, ← Array.getElem?_toList]
  exact hu
theorem tcs_one1 (x y : Int) (xs : List Int) (a : Option Addr) (n c : Nat) : ∀ u ∈ tcs [(x, y, xs, .slice a n c)], u.oneCell' = true := tcs_one (fun t ht => by rw [List.mem_singleton.1 ht]; exact ⟨a, n, c, rfl⟩)

section
variable {w w' w1 w2 : World} {lo hi T B B' C C' : Nat} {v v' u : Value} {ts : List FT}
theorem owf_row {row : Option Nat} (h : OwF w T B C v ts) (hg : w.grownBy w' row) (hr : ∀ k, row = some k → k < B ∨ C ≤ k) : OwF w' T B C v ts := by
  rcases row with _ | r
  · exact owf_fr h (fr_gr (lo := C) (hi := C) hg (fun k hk => by cases hk)) (.inl (Nat.le_refl _))
  · exact owf_fr h (fr_gr (lo := r) (hi := r + 1) hg (fun k hk => by injection hk with hk; omega)) (by have := hr r rfl; omega)
theorem owf_gs {r : Nat} (h : OwF w T B C v ts) (hg : w.grownBy w' (some r)) (hr : r < B ∨ C ≤ r) : OwF w' T B C v ts := owf_row h hg (fun k hk => by injection hk with hk; omega)
theorem owf_set {p : Addr} (h : OwF w T B C v ts) (hp : C ≤ p.block ∨ p.block < B) (x : Value) : OwF (w.setCell p x) T B C v ts := owf_row h (gr_set w p x) (fun k hk => by injection hk with hk; omega)
theorem owf_nil (w : World) (T B : Nat) : OwF w T B 0 (.slice none 0 0) [] :=
  ⟨World.ownsRow_nil _ _ _ _, fun g h => by simp [Value.ownBlock] at h, fun t h => by simp at h, fun t h => by simp at h, by simp, Nat.zero_le _⟩
theorem owf_made (w : World) (T B g : Nat) (hg : g = w.heap.size) (hb : B ≤ g) : OwF (w.alloc (.cells #[] T)) T B (g + 1) (.slice (some ⟨g, 0, none⟩) 0 0) [] := by
  subst hg
  exact ⟨World.ownsRow_made w #[] 0 hb (by unfold maxLen; omega) rfl, fun g h => by simp [Value.ownBlock] at h; omega, fun t h => by simp at h, fun t h => by simp at h, by simp, by simp⟩
/-- A flight put behind them. -/
theorem owf_snoc {p q : Int} {xs : List Int} {n : Nat} (h : OwF w1 T B C v ts) (ho : Ow w1 C u xs) (hBC : B ≤ C) (hrow : w2.ownsRow B T 3 v' n (tcs (ts ++ [(p, q, xs, u)]))) (hn : n = ts.length + 1) (hg : w1.grownBy w2 v.ownBlock) (hloc : v'.ownBlock = v.ownBlock ∨ v'.ownBlock = some w1.heap.size) : OwF w2 T B w2.heap.size v' (ts ++ [(p, q, xs, u)]) := by
  subst hn
  obtain ⟨h1, h2, h3, h4, h5, h6⟩ := h
  have hs := hg.size
  have hin : ∀ t ∈ ts, OwI w2 B C (fv t) (fw t) := fun t ht => ⟨own_gr (h3 t ht).1 hg (fun g g' e e' => h4 t ht g g' e e'), (h3 t ht).2⟩
  have hu : Ow w2 C u xs := own_gr ho hg (fun g g' e e' => by have := h2 g e; have := own_lo ho g' e'; omega)
  refine ⟨by rw [List.length_append]; exact hrow, own_hi hrow, fun t ht => ?_, fun t ht => ?_, ?_, Nat.le_refl _⟩
  · rcases List.mem_append.1 ht with ht | ht
    · exact owi_mono (hin t ht) (Nat.le_refl _) (by omega)
    · rw [List.mem_singleton.1 ht]; exact ow_owi (own_base hu hBC)
  · intro g g' e e'
    rcases List.mem_append.1 ht with ht | ht
    · rcases hloc with hl | hl
      · exact h4 t ht g g' (hl ▸ e) e'
      · rw [hl] at e; injection e with e; have := (h3 t ht).2 g' e'; omega
    · rw [List.mem_singleton.1 ht] at e'
      have hlo := own_lo ho g' e'
      have hhi := own_hi ho g' e'
      rcases hloc with hl | hl
      · have := h2 g (hl ▸ e); omega
      · rw [hl] at e; injection e with e; omega
  · rw [List.map_append, List.pairwise_append]
    refine ⟨h5, List.pairwise_singleton _ _, fun a ha b hb g g' e e' => ?_⟩
    obtain ⟨t, ht, rfl⟩ := List.mem_map.1 ha
    simp only [List.map_cons, List.map_nil, List.mem_singleton] at hb
    subst hb
    have := (h3 t ht).2 g e
    have := own_lo ho g' e'
    omega
/-- The slice of flight k is appended to, and stored back. -/
theorem owf_upd {k : Nat} (h : OwF w1 T B C v ts) (hk : k < ts.length) {t : Int} {n : Nat} (ho : w2.ownsRow B 3 1 u n (ints (fw ts[k] ++ [t]))) (hn : n = (fw ts[k]).length + 1) (hg : w1.grownBy w2 (fv ts[k]).ownBlock) (hloc : u.ownBlock = (fv ts[k]).ownBlock ∨ u.ownBlock = some w1.heap.size)
    {g : Nat} {cap : Nat} (hv : v = .slice (some ⟨g, 0, none⟩) ts.length cap) (_hBC : B ≤ w1.heap.size) : OwF (w2.setCell ⟨g, k * 3 + 2, none⟩ u) T B w2.heap.size v (ts.set k (ts[k].1, ts[k].2.1, fw ts[k] ++ [t], u)) := by
  subst hn; subst hv
  obtain ⟨h1, h2, h3, h4, h5, h6⟩ := h
  have hs := hg.size
  have hkin := h3 _ (List.getElem_mem hk)
  have hgC := h2 g rfl
  have hgB := own_lo h1 g rfl
  have hvn : ∀ g', (fv ts[k]).ownBlock = some g' → g' ≠ g := fun g' e => h4 _ (List.getElem_mem hk) g g' rfl e
  have hrow2 : w2.ownsRow B T 3 (.slice (some ⟨g, 0, none⟩) ts.length cap) ts.length (tcs ts) := own_gr h1 hg (fun a b e e' => by
    simp only [Value.ownBlock, Option.some.injEq] at e'; subst e'
    exact fun e2 => hvn a e e2.symm)
  have hun : ∀ g', u.ownBlock = some g' → g' ≠ g := fun g' e => by
    rcases hloc with hl | hl
    · exact hvn g' (hl ▸ e)
    · rw [hl] at e; injection e with e; omega
  have hlen : (ts.set k (ts[k].1, ts[k].2.1, fw ts[k] ++ [t], u)).length = ts.length := by simp
  have hset : (tcs ts).set (k * 3 + 2) u = tcs (ts.set k (ts[k].1, ts[k].2.1, fw ts[k] ++ [t], u)) := by
    have e1 : ts = ts.take k ++ ts[k] :: ts.drop (k + 1) := by rw [← List.drop_eq_getElem_cons hk, List.take_append_drop]
    have e2 : ts.set k (ts[k].1, ts[k].2.1, fw ts[k] ++ [t], u) = ts.take k ++ (ts[k].1, ts[k].2.1, fw ts[k] ++ [t], u) :: ts.drop (k + 1) := by
      rw [List.set_eq_take_append_cons_drop, if_pos hk]
    have el : (ts.take k).length = k := by simp; omega
    have e3 : (tcs (ts.take k)).length = k * 3 := by rw [tcs_len, el]
    have e4 : tcs ts = tcs (ts.take k) ++ tcs (ts[k] :: ts.drop (k + 1)) := by rw [← tcs_append, ← e1]
    rw [e2, e4, tcs_append, List.set_append_right _ _ (by omega), e3, Nat.add_sub_cancel_left]
    rfl
  have hst := (hrow2.stored (k * 3 + 2) u).1
  rw [hset] at hst
  have hsz : (w2.setCell ⟨g, k * 3 + 2, none⟩ u).heap.size = w2.heap.size := by simp [World.setCell]
  have hfr : w2.grownBy (w2.setCell ⟨g, k * 3 + 2, none⟩ u) (some g) := gr_set w2 ⟨g, k * 3 + 2, none⟩ u
  have hmem : ∀ x ∈ ts.set k (ts[k].1, ts[k].2.1, fw ts[k] ++ [t], u), x = (ts[k].1, ts[k].2.1, fw ts[k] ++ [t], u) ∨ ∃ j, ∃ hj : j < ts.length, j ≠ k ∧ x = ts[j] := by
    intro x hx
    obtain ⟨j, hj, rfl⟩ := List.getElem_of_mem hx
    rw [hlen] at hj
    by_cases e : j = k
    · subst e; left; simp
    · right; exact ⟨j, hj, e, by rw [List.getElem_set_ne (by omega)]⟩
  have pw := List.pairwise_iff_getElem.1 h5
  have nej : ∀ j (hj : j < ts.length), j ≠ k → NE (fv ts[j]) (fv ts[k]) ∧ NE (fv ts[k]) (fv ts[j]) := by
    intro j hj e
    rcases Nat.lt_or_gt_of_ne e with e | e
    · have := pw j k (by simpa using hj) (by simpa using hk) e
      simp only [List.getElem_map] at this
      exact ⟨this, ne_symm this⟩
    · have := pw k j (by simpa using hk) (by simpa using hj) e
      simp only [List.getElem_map] at this
      exact ⟨ne_symm this, this⟩
  have oj : ∀ j (hj : j < ts.length), j ≠ k → OwI (w2.setCell ⟨g, k * 3 + 2, none⟩ u) B C (fv ts[j]) (fw ts[j]) := by
    intro j hj e
    have hi := h3 _ (List.getElem_mem hj)
    refine ⟨own_gr (own_gr hi.1 hg (fun a b e1 e2 => (nej j hj e).2 a b e1 e2)) hfr (fun a b e1 e2 => ?_), hi.2⟩
    injection e1 with e1; subst e1
    exact h4 _ (List.getElem_mem hj) g b rfl e2
  have hu2 : (w2.setCell ⟨g, k * 3 + 2, none⟩ u).ownsRow B 3 1 u ((fw ts[k]).length + 1) (ints (fw ts[k] ++ [t])) := own_gr ho hfr (fun a b e1 e2 => by
    injection e1 with e1; subst e1; exact hun b e2)
  have huj : ∀ j (hj : j < ts.length), j ≠ k → NE (fv ts[j]) u ∧ NE u (fv ts[j]) := by
    intro j hj e
    have hb := (h3 _ (List.getElem_mem hj)).2
    rcases hloc with hl | hl
    · exact ⟨fun a b e1 e2 => (nej j hj e).1 a b e1 (hl ▸ e2), fun a b e1 e2 => (nej j hj e).2 a b (hl ▸ e1) e2⟩
    · refine ⟨fun a b e1 e2 => ?_, fun a b e1 e2 => ?_⟩
      · rw [hl] at e2; injection e2 with e2; have := hb a e1; omega
      · rw [hl] at e1; injection e1 with e1; have := hb b e2; omega
  refine ⟨by rw [hlen]; exact hst, fun a e => ?_, fun x hx => ?_, fun x hx => ?_, ?_, by rw [hsz]; exact Nat.le_refl _⟩
  · simp only [Value.ownBlock, Option.some.injEq] at e; omega
  · rcases hmem x hx with rfl | ⟨j, hj, e, rfl⟩
    · refine ⟨?_, fun a e => ?_⟩
      · show World.ownsRow _ _ _ _ _ _ _
        rw [show (fw ((ts[k].1, ts[k].2.1, fw ts[k] ++ [t], u) : FT)).length = (fw ts[k]).length + 1 by simp [fw]]
        exact hu2
      · exact own_hi ho a e
    · exact owi_mono (oj j hj e) (Nat.le_refl _) (by omega)
  · rcases hmem x hx with rfl | ⟨j, hj, e, rfl⟩
    · intro a b e1 e2
      simp only [Value.ownBlock, Option.some.injEq] at e1; subst e1
      exact hun b e2
    · exact h4 _ (List.getElem_mem hj)
  · rw [List.pairwise_iff_getElem]
    intro i j hi0 hj0 hij
    have hi : i < ts.length := by simpa using hi0
    have hj : j < ts.length := by simpa using hj0
    simp only [List.getElem_map]
    by_cases e1 : i = k
    · subst e1
      rw [List.getElem_set_self, List.getElem_set_ne (by omega)]
      exact (huj j hj (by omega)).2
    · by_cases e2 : j = k
      · subst e2
        rw [List.getElem_set_self, List.getElem_set_ne (by omega)]
        exact (huj i hi e1).1
      · rw [List.getElem_set_ne (by omega), List.getElem_set_ne (by omega)]
        have := pw i j (by simpa using hi) (by simpa using hj) hij
        simpa using this
/-- Is there a flight, the row lies somewhere. -/
theorem owf_some {a : Option Addr} {n cap : Nat} (h : OwF w T B C (.slice a n cap) ts) (h0 : 0 < ts.length) : ∃ g, a = some ⟨g, 0, none⟩ := by
  obtain ⟨_, ⟨_, h1⟩ | ⟨g, c, cur, hv, _⟩⟩ := h.1
  · omega
  · simp only [Value.slice.injEq] at hv; exact ⟨g, hv.1⟩
theorem owf_form {a : Option Addr} {n cap : Nat} (h : OwF w T B C (.slice a n cap) ts) : (a = none ∧ n = 0 ∧ cap = 0 ∧ ts = []) ∨ ∃ g, a = some ⟨g, 0, none⟩ := by
  obtain ⟨_, ⟨hv, h1⟩ | ⟨g, c, cur, hv, _⟩⟩ := h.1
  · simp only [Value.slice.injEq] at hv; exact .inl ⟨hv.1, hv.2.1, hv.2.2, List.eq_nil_of_length_eq_zero h1⟩
  · simp only [Value.slice.injEq] at hv; exact .inr ⟨g, hv.1⟩
theorem row_cells {n cap g : Nat} (h : w.ownsRow B T 3 (.slice (some ⟨g, 0, none⟩) n cap) ts.length (tcs ts)) (hn : n = ts.length) (k : Nat) (hk : k < ts.length) :
    w.cell? ⟨g, k * 3, none⟩ = some (.int .i64 ts[k].1) ∧ w.cell? ⟨g, k * 3 + 1, none⟩ = some (.int .i64 ts[k].2.1) ∧ w.cell? ⟨g, k * 3 + 2, none⟩ = some (fv ts[k]) ∧ w.frozen? ⟨g, k * 3 + 2, none⟩ = false := by
  subst hn
  obtain ⟨h0, h1, h2⟩ := tcs_at ts k hk
  exact ⟨(h.cellAt (k * 3) (by omega)).trans h0, (h.cellAt (k * 3 + 1) (by omega)).trans h1, (h.cellAt (k * 3 + 2) (by omega)).trans h2, h.frozenAt _⟩
theorem owf_cells {n cap g : Nat} (h : OwF w T B C (.slice (some ⟨g, 0, none⟩) n cap) ts) (hn : n = ts.length) (k : Nat) (hk : k < ts.length) :
    w.cell? ⟨g, k * 3, none⟩ = some (.int .i64 ts[k].1) ∧ w.cell? ⟨g, k * 3 + 1, none⟩ = some (.int .i64 ts[k].2.1) ∧ w.cell? ⟨g, k * 3 + 2, none⟩ = some (fv ts[k]) ∧ w.frozen? ⟨g, k * 3 + 2, none⟩ = false := row_cells h.1 hn k hk
/-- The row's cells while the slice of flight k is appended to. -/
theorem owf_cells_gr {n cap g : Nat} (h : OwF w1 T B C (.slice (some ⟨g, 0, none⟩) n cap) ts) (hn : n = ts.length) (k : Nat) (hk : k < ts.length) (hg : w1.grownBy w2 (fv ts[k]).ownBlock) :
    w2.cell? ⟨g, k * 3 + 2, none⟩ = some (fv ts[k]) ∧ w2.frozen? ⟨g, k * 3 + 2, none⟩ = false := by
  subst hn
  have hr : w2.ownsRow B T 3 (.slice (some ⟨g, 0, none⟩) ts.length cap) ts.length (tcs ts) := own_gr h.1 hg (fun a b e e' => by
    simp only [Value.ownBlock, Option.some.injEq] at e'; subst e'
    exact fun e2 => h.2.2.2.1 _ (List.getElem_mem hk) g a rfl e e2.symm)
  obtain ⟨_, _, h3, h4⟩ := row_cells hr rfl k hk
  exact ⟨h3, h4⟩
/-- Flights of one's own, put together. -/
theorem owf_mk {n : Nat} {rs : List FT} (hrow : w.ownsRow B T 3 v n (tcs rs)) (hn : n = rs.length) (hin : ∀ t ∈ rs, OwI w B C (fv t) (fw t)) (hC : C ≤ w.heap.size) (hne : ∀ t ∈ rs, NE v (fv t)) (hpw : (rs.map fv).Pairwise NE) : OwF w T B w.heap.size v rs := by
  subst hn
  exact ⟨hrow, own_hi hrow, fun t ht => owi_mono (hin t ht) (Nat.le_refl _) hC, hne, hpw, Nat.le_refl _⟩
theorem row_cap {e s n cap g : Nat} {cs : List Value} (h : w.ownsRow B e s (.slice (some ⟨g, 0, none⟩) n cap) n cs) : n ≤ cap := by
  obtain ⟨_, ⟨hv, _⟩ | ⟨g', c, cur, hv, _, _, hn, _⟩⟩ := h
  · cases hv
  · simp only [Value.slice.injEq] at hv; omega
/-- A flight put among them, in a new row. -/
theorem owf_ins {D E j n : Nat} {p q : Int} {xs : List Int} {vo : Value} (h : OwF w T B C vo ts) (hu : Ow w D u xs) (hCD : C ≤ D) (hrow : w.ownsRow E T 3 v n (tcs (ts.take j ++ [(p, q, xs, u)] ++ ts.drop j))) (hn : n = ts.length + 1) (hj : j ≤ ts.length) (hCE : C ≤ E) (hBE : B ≤ E) (hBD : B ≤ D) (hne : NE v u) :
    OwF w T B w.heap.size v (ts.take j ++ [(p, q, xs, u)] ++ ts.drop j) := by
  obtain ⟨h1, h2, h3, h4, h5, h6⟩ := h
  have hmem : ∀ t ∈ ts.take j ++ [(p, q, xs, u)] ++ ts.drop j, t = (p, q, xs, u) ∨ t ∈ ts := fun t ht => by
    simp only [List.mem_append, List.mem_singleton] at ht
    rcases ht with (ht | ht) | ht
    · exact .inr (List.mem_of_mem_take ht)
    · exact .inl ht
    · exact .inr (List.mem_of_mem_drop ht)
  refine owf_mk (C := w.heap.size) (own_base hrow hBE) (by subst hn; simp; omega) (fun t ht => ?_) (Nat.le_refl _) (fun t ht => ?_) ?_
  · rcases hmem t ht with rfl | ht
    · exact ow_owi (own_base hu hBD)
    · exact owi_mono (h3 t ht) (Nat.le_refl _) h6
  · rcases hmem t ht with rfl | ht
    · exact hne
    · intro g g' e e'
      have := own_lo hrow g e; have := (h3 t ht).2 g' e'; omega
  · have hx : ∀ t ∈ ts, NE (fv t) u ∧ NE u (fv t) := fun t ht => ⟨fun g g' e e' => by have := (h3 t ht).2 g e; have := own_lo hu g' e'; omega, fun g g' e e' => by have := (h3 t ht).2 g' e'; have := own_lo hu g e; omega⟩
    have h7 : (ts.take j ++ ts.drop j).map fv = ts.map fv := by rw [List.take_append_drop]
    rw [← h7, List.map_append, List.pairwise_append] at h5
    rw [List.map_append, List.map_append, List.pairwise_append, List.pairwise_append]
    refine ⟨⟨h5.1, List.pairwise_singleton _ _, fun a ha b hb => ?_⟩, h5.2.1, fun a ha b hb => ?_⟩
    · obtain ⟨t, ht, rfl⟩ := List.mem_map.1 ha
      simp only [List.map_cons, List.map_nil, List.mem_singleton] at hb; subst hb
      exact (hx t (List.mem_of_mem_take ht)).1
    · rcases List.mem_append.1 ha with ha | ha
      · exact h5.2.2 a ha b hb
      · simp only [List.map_cons, List.map_nil, List.mem_singleton] at ha; subst ha
        obtain ⟨t, ht, rfl⟩ := List.mem_map.1 hb
        exact (hx t (List.mem_of_mem_drop ht)).2
/-- The values of flights are slices. -/
theorem owf_one (h : OwF w T B C v ts) : ∀ t ∈ ts, ∃ a n c, fv t = .slice a n c := fun t ht => by
  obtain ⟨a, c, e⟩ := own_shape (h.2.2.1 t ht).1
  exact ⟨a, _, c, e⟩

/-- v reads as n flights' cells, and they lie from block B on and ahead of C. -/
def RdP (w : World) (B C : Nat) (v : Value) (n : Nat) (ts : List FT) : Prop := RdX w 3 v n (tcs ts) ∧ (n ≠ 0 → ∀ g, v.ownBlock = some g → B ≤ g ∧ g < C)
theorem rdp_x {n : Nat} (h : RdP w B C v n ts) : RdX w 3 v n (tcs ts) := h.1
theorem rdp_fr {n : Nat} (h : RdP w B C v n ts) (k : Fr w w' lo hi) (hs : C ≤ lo ∨ hi ≤ B) : RdP w' B C v n ts := ⟨rdx_fr h.1 k (fun h0 g hg => by have := h.2 h0 g hg; omega), h.2⟩
theorem rdp_b {n : Nat} (h : RdP w B C v n ts) (hb : Below w.heap.size w w') : RdP w' B C v n ts := rdp_fr h (fr_b (lo := C) (hi := C) hb) (.inl (Nat.le_refl _))
theorem rdp_row {n : Nat} {row : Option Nat} (h : RdP w B C v n ts) (hg : w.grownBy w' row) (hr : ∀ k, row = some k → k < B ∨ C ≤ k) : RdP w' B C v n ts := by
  rcases row with _ | r
  · exact rdp_fr h (fr_gr (lo := C) (hi := C) hg (fun k hk => by cases hk)) (.inl (Nat.le_refl _))
  · exact rdp_fr h (fr_gr (lo := r) (hi := r + 1) hg (fun k hk => by injection hk with hk; omega)) (by have := hr r rfl; omega)
theorem rdp_gs {n r : Nat} (h : RdP w B C v n ts) (hg : w.grownBy w' (some r)) (hr : r < B ∨ C ≤ r) : RdP w' B C v n ts := rdp_row h hg (fun k hk => by injection hk with hk; omega)
theorem rdp_set {n : Nat} {p : Addr} (h : RdP w B C v n ts) (hp : C ≤ p.block ∨ p.block < B) (x : Value) : RdP (w.setCell p x) B C v n ts := rdp_row h (gr_set w p x) (fun k hk => by injection hk with hk; omega)
theorem rdp_nil (w : World) (B C : Nat) : RdP w B C (.slice none 0 0) 0 [] := ⟨rdx_nil w 3, fun h0 => absurd rfl h0⟩
theorem tcs_take (ts : List FT) (j : Nat) : tcs (ts.take j) = (tcs ts).take (j * 3) := by
  by_cases h : j ≤ ts.length
  · have h1 : tcs ts = tcs (ts.take j) ++ tcs (ts.drop j) := by rw [← tcs_append, List.take_append_drop]
    rw [h1, List.take_left' (by rw [tcs_len]; simp; omega)]
  · rw [List.take_of_length_le (by omega), List.take_of_length_le (by rw [tcs_len]; omega)]
theorem tcs_drop (ts : List FT) (j : Nat) : tcs (ts.drop j) = (tcs ts).drop (j * 3) := by
  by_cases h : j ≤ ts.length
  · have h1 : tcs ts = tcs (ts.take j) ++ tcs (ts.drop j) := by rw [← tcs_append, List.take_append_drop]
    rw [h1, List.drop_left' (by rw [tcs_len]; simp; omega)]
  · rw [List.drop_of_length_le (by omega), List.drop_of_length_le (by rw [tcs_len]; omega)]; rfl
/-- The first j flights, and the others. -/
theorem rdf_take {g cap j o : Nat} (h : RdF w B C (.slice (some ⟨g, o, none⟩) ts.length cap) ts) (hj : j ≤ ts.length) : RdP w B C (.slice (some ⟨g, o, none⟩) j cap) j (ts.take j) := by
  obtain ⟨⟨a, c, hv, hc, hn, hl, h5⟩, h2, _, _⟩ := h
  simp only [Value.slice.injEq, true_and] at hv
  obtain ⟨rfl, rfl⟩ := hv
  refine ⟨⟨_, cap, rfl, by omega, by simp, by rw [tcs_len]; simp; omega, ?_⟩, fun h0 x hx => h2 (by omega) x hx⟩
  by_cases hj0 : j = 0
  · exact .inl hj0
  rcases h5 with h5 | ⟨g', off, e, hlt, hf⟩
  · omega
  · refine .inr ⟨g', off, e, hlt, fun i u hu => hf i u ?_⟩
    rw [tcs_take, List.getElem?_take] at hu
    split at hu
    · exact hu
    · cases hu
theorem rdf_drop {g cap j o : Nat} (h : RdF w B C (.slice (some ⟨g, o, none⟩) ts.length cap) ts) (hj : j ≤ ts.length) (o' c' : Nat) (ho : o' = o + j * 3 ∨ j = ts.length) (hc' : ts.length - j ≤ c') : RdP w B C (.slice (some ⟨g, o', none⟩) (ts.length - j) c') (ts.length - j) (ts.drop j) := by
  obtain ⟨⟨a, c, hv, hc, hn, hl, h5⟩, h2, _, _⟩ := h
  simp only [Value.slice.injEq, true_and] at hv
  obtain ⟨rfl, rfl⟩ := hv
  refine ⟨⟨_, c', rfl, hc', by simp, by rw [tcs_len]; simp, ?_⟩, fun h0 x hx => h2 (by omega) x (by simpa [Value.ownBlock] using hx)⟩
  by_cases hj0 : ts.length - j = 0
  · exact .inl hj0
  rcases h5 with h5 | ⟨g', off, e, hlt, hf⟩
  · omega
  · injection e with e; injection e with e1 e2
    subst e1; subst e2
    rcases ho with rfl | ho
    · refine .inr ⟨g, o + j * 3, rfl, hlt, fun i u hu => ?_⟩
      have := hf (j * 3 + i) u (by rw [tcs_drop, List.getElem?_drop] at hu; exact hu)
      rwa [← Nat.add_assoc] at this
    · omega
end
end Go.Proofs.Ytafpnkcdoeicgaa
