/- Words for slices whose elements take several cells. -/
import Derived.Test.YtcbdpcalmafdiaaDoorBase
namespace Go.Proofs.YtcbdpcalmafdiaaDoor
open Go.RowKit

/-- v is a slice of n elements of k cells each, that reads as the cells cs. -/
def RdX (w : World) (k : Nat) (v : Value) (n : Nat) (cs : List Value) : Prop :=
  ∃ a cap, v = .slice a n cap ∧ n ≤ cap ∧ (a = none → cap = 0) ∧ cs.length = n * k ∧ (n = 0 ∨ ∃ g off, a = some ⟨g, off, none⟩ ∧ g < w.heap.size ∧ ∀ j u, cs[j]? = some u → w.cell? ⟨g, off + j, none⟩ = some u)
/-- The same, and it lies from block B on. -/
def RdXB (w : World) (k B : Nat) (v : Value) (n : Nat) (cs : List Value) : Prop := RdX w k v n cs ∧ ∀ g, v.ownBlock = some g → B ≤ g ∧ g < w.heap.size

section
variable {w w' : World} {k B B' n : Nat} {v : Value} {cs : List Value}
theorem rdx_nil (w : World) (k : Nat) : RdX w k (.slice none 0 0) 0 [] := ⟨none, 0, rfl, Nat.le_refl _, fun _ => rfl, by simp, .inl rfl⟩
theorem rdx_b (h : RdX w k v n cs) (hb : Below w.heap.size w w') : RdX w' k v n cs := by
  obtain ⟨a, cap, hv, hc, hn, hl, h⟩ := h
  refine ⟨a, cap, hv, hc, hn, hl, ?_⟩
  rcases h with h | ⟨g, off, ha, hg, hcell⟩
  · exact .inl h
  · exact .inr ⟨g, off, ha, Nat.lt_of_lt_of_le hg hb.size, fun j u hu => cell_b (hcell j u hu) hb⟩
theorem rdx_alloc (h : RdX w k v n cs) (o : Obj) : RdX (w.alloc o) k v n cs := rdx_b h (below_alloc w o)
theorem rdx_drew (h : RdX w k v n cs) : RdX w.drew k v n cs := rdx_b h (drew_below w)
theorem rdxb_x (h : RdXB w k B v n cs) : RdX w k v n cs := h.1
theorem rdxb_nil (w : World) (k B : Nat) : RdXB w k B (.slice none 0 0) 0 [] := ⟨rdx_nil w k, fun g h => by simp [Value.ownBlock] at h⟩
theorem rdxb_b (h : RdXB w k B v n cs) (hb : Below w.heap.size w w') : RdXB w' k B v n cs := ⟨rdx_b h.1 hb, fun g hg => ⟨(h.2 g hg).1, Nat.lt_of_lt_of_le (h.2 g hg).2 hb.size⟩⟩
theorem rdxb_mono (h : RdXB w k B v n cs) (hB : B' ≤ B) : RdXB w k B' v n cs := ⟨h.1, fun g hg => ⟨Nat.le_trans hB (h.2 g hg).1, (h.2 g hg).2⟩⟩
theorem rdxb_gr {row : Option Nat} (h : RdXB w k B v n cs) (hg : w.grownBy w' row) (hne : ∀ g g', row = some g → v.ownBlock = some g' → g' ≠ g) : RdXB w' k B v n cs := by
  obtain ⟨⟨a, cap, hv, hc, hn, hl, h5⟩, h2⟩ := h
  refine ⟨⟨a, cap, hv, hc, hn, hl, ?_⟩, fun g hg' => ⟨(h2 g hg').1, Nat.lt_of_lt_of_le (h2 g hg').2 hg.size⟩⟩
  rcases h5 with h5 | ⟨g, off, e, hlt, hf⟩
  · exact .inl h5
  · exact .inr ⟨g, off, e, Nat.lt_of_lt_of_le hlt hg.size, fun j u hu => cell_gr (hf j u hu) hg (fun k hk => hne k g hk (by subst hv; subst e; rfl))⟩
theorem rdxb_gs {r : Nat} (h : RdXB w k B v n cs) (hg : w.grownBy w' (some r)) (hr : r < B) : RdXB w' k B v n cs :=
  rdxb_gr h hg (fun g g' h1 h2 => by injection h1 with h1; have := (h.2 g' h2).1; omega)
theorem rdxb_lo (h : RdXB w k B v n cs) : ∀ g, v.ownBlock = some g → B ≤ g := fun g hg => (h.2 g hg).1
theorem rdxb_hi (h : RdXB w k B v n cs) : ∀ g, v.ownBlock = some g → g < w.heap.size := fun g hg => (h.2 g hg).2
theorem own_rdx {b e : Nat} (h : w.ownsRow b e k v n cs) : RdX w k v n cs := by
  have h0 := h
  obtain ⟨h1, h2⟩ := h
  rcases h2 with ⟨rfl, h2⟩ | ⟨g, cap, cur, rfl, hg, hh, hn, r⟩
  · subst h2; exact ⟨none, 0, rfl, Nat.le_refl _, fun _ => rfl, h1, .inl rfl⟩
  · refine ⟨_, cap, rfl, hn, by simp, h1, .inr ⟨g, 0, rfl, (Array.getElem?_eq_some_iff.1 hh).1, fun j u hu => ?_⟩⟩
    have hj : j < n * k := by rw [← h1]; exact (List.getElem?_eq_some_iff.1 hu).1
    rw [Nat.zero_add, World.ownsRow.cellAt h0 j hj]; exact hu
theorem own_rdxb {b e : Nat} (h : w.ownsRow b e k v n cs) : RdXB w k b v n cs := ⟨own_rdx h, fun g hg => ⟨own_lo h g hg, own_hi h g hg⟩⟩
theorem rdx_news {g off : Nat} (hc : ∀ j u, cs[j]? = some u → w.cell? ⟨g, off + j, none⟩ = some u) : ∀ j u, cs[j]? = some u → w.cell? ((⟨g, off, none⟩ : Addr).add j) = some u := by
  intro j u hu
  have hadd : (⟨g, off, none⟩ : Addr).add j = ⟨g, off + j, none⟩ := by unfold Addr.add; split <;> simp_all
  rw [hadd]; exact hc j u hu
end

section
variable {P : Program} {ops : Array Oper} {o : Oper} {a : Act} {w : World}
/-- 'append(own, ys...)' as one step of a region that draws its order, whatever the elements; the appended slice is only read. -/
theorem step_append_rdx {K : Act → World → Prop} {Q : Exit → Act → World → Prop} {E : Prop} (hw : Region.wanted o (yielded ops a.tmps) = true) (s x : Operand) (t : TypeId)
    (ho : o.op = .call { callee := .builtin .append, args := #[s, x], argTypes := #[t, t] })
    (base e size bytes : Nat) (z : Value) (i : TypeInfo) (ht : P.underlying t = some (.slice e)) (hi : P.info? e = some i) (hz : i.zero = some z) (hsize : i.size = size) (hby : i.bytes = bytes) (hzs : z.cells.size = size) (hpos : 0 < size)
    (v : Value) (n : Nat) (xs : List Value) (hs : a.eval s = v) (hown : w.ownsRow base e size v n xs)
    (ao : Option Addr) (m c : Nat) (ys : List Value) (hx : a.eval x = .slice ao m c) (hrd : RdX w size (.slice ao m c) m ys) (h1 : ∀ u ∈ ys, u.oneCell' = true)
    (h63 : n + m ≤ maxLen) (hbytes : (n + m) * bytes ≤ 140737488355328) (hbase : base ≤ w.heap.size)
    (h : ∀ v' w', w'.ownsRow base e size v' (n + m) (xs ++ ys) → w.grownBy w' v.ownBlock → (v'.ownBlock = v.ownBlock ∨ v'.ownBlock = some w.heap.size) → K (a.put o.dst v') w') :
    if Region.wanted o (yielded ops a.tmps) = true then Oper.wp P o a w K Q else E := by
  rw [if_pos hw]
  obtain ⟨a', c', e', hc, hn, hl, hr⟩ := hrd
  simp only [Value.slice.injEq] at e'
  obtain ⟨rfl, _, rfl⟩ := e'
  rcases ao with _ | ad
  · obtain rfl := hn rfl
    obtain rfl : m = 0 := by omega
    have h0 : ys = [] := List.eq_nil_of_length_eq_zero (by simpa using hl)
    subst h0
    have hrun := run_append_owned_none (P := P) (w := w) base t o.type e i size ht hi v n xs hown
    unfold Oper.wp
    simp only [execOp, ho, resolve, invoke, builtin, Sem.run_bind, Sem.run_pure, Result.andThen_ok, List.map_toArray, List.map_cons, List.map_nil, hs, hx, hrun]
    exact h v w (by simpa using hown) ⟨rfl, rfl, rfl, Nat.le_refl _, fun _ _ _ => rfl⟩ (.inl rfl)
  · have hnews : ∀ j u, ys[j]? = some u → w.cell? (ad.add j) = some u := by
      rcases hr with hr | ⟨g, off, e', hg, hcell⟩
      · subst hr
        have h0 : ys = [] := List.eq_nil_of_length_eq_zero (by simpa using hl)
        subst h0; intro j u hu; simp at hu
      · simp only [Option.some.injEq] at e'; subst e'; exact rdx_news hcell
    obtain ⟨v', w', hrun, h2, h3, _, h5⟩ := run_append_own_at (P := P) w base t o.type e i z size bytes ht hi hz hsize hby hzs hpos v n xs hown ad m c ys hl hnews h1 h63 hbytes hbase
    unfold Oper.wp
    simp only [execOp, ho, resolve, invoke, builtin, Sem.run_bind, Sem.run_pure, Result.andThen_ok, List.map_toArray, List.map_cons, List.map_nil, hs, hx, hrun]
    exact h v' w' h2 h3 h5
/-- The same in a plain region. -/
theorem wpList_append_rdx {Q : Exit → Act → World → Prop} {rest : List Oper} (hw : Region.wanted o (yielded ops a.tmps) = true) (s x : Operand) (t : TypeId)
    (ho : o.op = .call { callee := .builtin .append, args := #[s, x], argTypes := #[t, t] })
    (base e size bytes : Nat) (z : Value) (i : TypeInfo) (ht : P.underlying t = some (.slice e)) (hi : P.info? e = some i) (hz : i.zero = some z) (hsize : i.size = size) (hby : i.bytes = bytes) (hzs : z.cells.size = size) (hpos : 0 < size)
    (v : Value) (n : Nat) (xs : List Value) (hs : a.eval s = v) (hown : w.ownsRow base e size v n xs)
    (ao : Option Addr) (m c : Nat) (ys : List Value) (hx : a.eval x = .slice ao m c) (hrd : RdX w size (.slice ao m c) m ys) (h1 : ∀ u ∈ ys, u.oneCell' = true)
    (h63 : n + m ≤ maxLen) (hbytes : (n + m) * bytes ≤ 140737488355328) (hbase : base ≤ w.heap.size)
    (h : ∀ v' w', w'.ownsRow base e size v' (n + m) (xs ++ ys) → w.grownBy w' v.ownBlock → (v'.ownBlock = v.ownBlock ∨ v'.ownBlock = some w.heap.size) → wpList P ops Q rest (a.put o.dst v') w') : wpList P ops Q (o :: rest) a w :=
  wpList_step fun _ hK => step_append_rdx hw s x t ho base e size bytes z i ht hi hz hsize hby hzs hpos v n xs hs hown ao m c ys hx hrd h1 h63 hbytes hbase fun v' w' a1 a2 a3 => hK _ _ (h v' w' a1 a2 a3)
end

/-- A struct of cells as an element's cells. -/
theorem flat_get {α : Type} (f : α → List Value) (k : Nat) (hf : ∀ x, (f x).length = k) : ∀ (xs : List α) (j i : Nat) (hj : j < xs.length), i < k → (xs.flatMap f)[j * k + i]? = (f (xs[j]'hj))[i]?
  | [], j, i, hj, _ => by simp at hj
  | x :: xs, 0, i, _, hi => by
    rw [List.flatMap_cons, List.getElem?_append_left (by rw [Nat.zero_mul, Nat.zero_add, hf]; exact hi)]; simp
  | x :: xs, j + 1, i, hj, hi => by
    have h1 : (f x).length ≤ (j + 1) * k + i := by rw [hf, Nat.add_mul]; omega
    rw [List.flatMap_cons, List.getElem?_append_right h1, hf, show (j + 1) * k + i - k = j * k + i by rw [Nat.add_mul]; omega]
    simpa using flat_get f k hf xs j i (by simpa using hj) hi
theorem flat_len {α : Type} (f : α → List Value) (k : Nat) (hf : ∀ x, (f x).length = k) (xs : List α) : (xs.flatMap f).length = xs.length * k := by
  induction xs with
  | nil => simp
  | cons x xs ih => rw [List.flatMap_cons, List.length_append, ih, hf, List.length_cons, Nat.add_mul]; omega

/-- Pairs of numbers as cells. -/
def prs (ws : List (Int × Int)) : List Value := ws.flatMap fun p => [.int .i64 p.1, .int .i64 p.2]
theorem prs_len (ws : List (Int × Int)) : (prs ws).length = ws.length * 2 := flat_len _ 2 (fun _ => rfl) ws
theorem prs_nil : prs [] = [] := rfl
theorem prs_append (xs ys : List (Int × Int)) : prs (xs ++ ys) = prs xs ++ prs ys := by unfold prs; rw [List.flatMap_append]
theorem prs_1 (ws : List (Int × Int)) (j : Nat) (h : j < ws.length) : (prs ws)[j * 2]? = some (.int .i64 ws[j].1) := by
  have := flat_get (fun p : Int × Int => [Value.int .i64 p.1, .int .i64 p.2]) 2 (fun _ => rfl) ws j 0 h (by omega)
  simpa [prs] using this
theorem prs_2 (ws : List (Int × Int)) (j : Nat) (h : j < ws.length) : (prs ws)[j * 2 + 1]? = some (.int .i64 ws[j].2) := by
  have := flat_get (fun p : Int × Int => [Value.int .i64 p.1, .int .i64 p.2]) 2 (fun _ => rfl) ws j 1 h (by omega)
  simpa [prs] using this
theorem prs_one {ws : List (Int × Int)} : ∀ u ∈ prs ws, u.oneCell' = true := by
  intro u hu; unfold prs at hu; rw [List.mem_flatMap] at hu
  obtain ⟨x, _, hx⟩ := hu
  simp only [List.mem_cons, List.not_mem_nil, or_false] at hx
  rcases hx with rfl | rfl <;> rfl

/-- v reads as the pairs ws. -/
abbrev RdW (w : World) (v : Value) (ws : List (Int × Int)) : Prop := RdX w 2 v ws.length (prs ws)
abbrev RdWB (w : World) (B : Nat) (v : Value) (ws : List (Int × Int)) : Prop := RdXB w 2 B v ws.length (prs ws)
theorem rdw_cells {w : World} {v : Value} {ws : List (Int × Int)} (h : RdW w v ws) : ∃ a cap, v = .slice a ws.length cap ∧ ws.length ≤ cap ∧ (a = none → cap = 0) ∧
    (ws.length = 0 ∨ ∃ g off, a = some ⟨g, off, none⟩ ∧ g < w.heap.size ∧ ∀ j (hj : j < ws.length), w.cell? ⟨g, off + j * 2, none⟩ = some (.int .i64 ws[j].1) ∧ w.cell? ⟨g, off + j * 2 + 1, none⟩ = some (.int .i64 ws[j].2)) := by
  obtain ⟨a, cap, hv, hc, hn, hl, h⟩ := h
  refine ⟨a, cap, hv, hc, hn, ?_⟩
  rcases h with h | ⟨g, off, ha, hg, hcell⟩
  · exact .inl h
  · exact .inr ⟨g, off, ha, hg, fun j hj => ⟨hcell _ _ (prs_1 ws j hj), by rw [Nat.add_assoc]; exact hcell _ _ (prs_2 ws j hj)⟩⟩

/-- The row of a 'make' of pairs behind k rounds. -/
def fillP (xs : List (Int × Int)) (k : Nat) : List Value := prs (xs.take k ++ List.replicate (xs.length - k) (0, 0))
theorem fillP_zero (xs : List (Int × Int)) : fillP xs 0 = prs (List.replicate xs.length (0, 0)) := by simp [fillP]
theorem fillP_all (xs : List (Int × Int)) : fillP xs xs.length = prs xs := by simp [fillP]
theorem fillP_len (xs : List (Int × Int)) (k : Nat) (h : k ≤ xs.length) : (fillP xs k).length = xs.length * 2 := by unfold fillP; rw [prs_len]; simp; omega
theorem prs_put (a b : List (Int × Int)) (x y : Int × Int) : ((prs (a ++ y :: b)).set (a.length * 2) (.int .i64 x.1)).set (a.length * 2 + 1) (.int .i64 x.2) = prs (a ++ x :: b) := by
  rw [prs_append, prs_append]
  have e : (prs a).length = a.length * 2 := prs_len a
  rw [List.set_append_right _ _ (by omega), List.set_append_right _ _ (by omega), e, Nat.sub_self, Nat.add_sub_cancel_left]
  simp [prs, List.flatMap_cons]
theorem fillP_set {xs : List (Int × Int)} {k : Nat} (h : k < xs.length) : ((fillP xs k).set (k * 2) (.int .i64 xs[k].1)).set (k * 2 + 1) (.int .i64 xs[k].2) = fillP xs (k + 1) := by
  have h1 := prs_put (xs.take k) (List.replicate (xs.length - (k + 1)) (0, 0)) xs[k] (0, 0)
  have e : (xs.take k).length = k := by simp; omega
  rw [e] at h1
  unfold fillP
  rw [show xs.length - k = (xs.length - (k + 1)) + 1 by omega, List.replicate_succ, h1, List.take_succ_eq_append_getElem h, List.append_assoc]
  rfl
theorem fillP_get {xs : List (Int × Int)} {k : Nat} (h : k < xs.length) : (fillP xs k)[k * 2]? = some (.int .i64 0) ∧ (fillP xs k)[k * 2 + 1]? = some (.int .i64 0) := by
  have hl : k < (xs.take k ++ List.replicate (xs.length - k) ((0 : Int), (0 : Int))).length := by simp; omega
  have e : (xs.take k ++ List.replicate (xs.length - k) ((0 : Int), (0 : Int)))[k] = (0, 0) := by
    rw [List.getElem_append_right (by simp; omega)]; simp
  unfold fillP
  rw [prs_1 _ _ hl, prs_2 _ _ hl, e]
  exact ⟨rfl, rfl⟩
theorem prs_made (n : Nat) : (madeCells (Value.agg #[.int .i64 0, .int .i64 0]).cells (n * 2)).toList = prs (List.replicate n (0, 0)) := by
  apply List.ext_getElem?
  intro j
  show (madeCells #[.int .i64 0, .int .i64 0] (n * 2)).toList[j]? = _
  by_cases hj : j < n * 2
  · have e1 : (madeCells #[Value.int .i64 0, .int .i64 0] (n * 2)).toList[j]? = some (.int .i64 0) := by
      have h2 : j % 2 = 0 ∨ j % 2 = 1 := by omega
      rcases h2 with h2 | h2 <;> simp [madeCells, hj, h2]
    rw [e1]
    have hl : j / 2 < (List.replicate n ((0 : Int), (0 : Int))).length := by simp; omega
    have h2 : j = j / 2 * 2 ∨ j = j / 2 * 2 + 1 := by omega
    rcases h2 with h2 | h2
    · rw [h2, prs_1 _ _ hl]; simp
    · rw [h2, prs_2 _ _ hl]; simp
  · rw [List.getElem?_eq_none (by simp [madeCells]; omega), List.getElem?_eq_none (by rw [prs_len]; simp; omega)]

end Go.Proofs.YtcbdpcalmafdiaaDoor
