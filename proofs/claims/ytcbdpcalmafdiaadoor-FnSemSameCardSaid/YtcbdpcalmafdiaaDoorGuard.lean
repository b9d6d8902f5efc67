/- append behind a guard. -/
import Derived.Test.YtcbdpcalmafdiaaDoorDraw
namespace Go.Proofs.YtcbdpcalmafdiaaDoor
open Go.RowKit

/-- The same as one step of a region that draws its order; where the new slice lies is told too. -/
theorem step_append_rd_w {P : Program} {ops : Array Oper} {o : Oper} {a : Act} {w : World} {K : Act → World → Prop} {Q : Exit → Act → World → Prop} {E : Prop} (hw : Region.wanted o (yielded ops a.tmps) = true) (s x : Operand) (t : TypeId)
    (ho : o.op = .call { callee := .builtin .append, args := #[s, x], argTypes := #[t, t] })
    (base : Nat) (i : TypeInfo) (ht : P.underlying t = some (.slice 3)) (hi : P.info? 3 = some i) (hz : i.zero = some (.int .i64 0)) (hsize : i.size = 1) (hby : i.bytes = 8)
    (v : Value) (n : Nat) (xs : List Int) (hs : a.eval s = v) (hown : w.ownsRow base 3 1 v n (ints xs))
    (ao : Option Addr) (m c : Nat) (ys : List Int) (hx : a.eval x = .slice ao m c) (hrd : Rd w (.slice ao m c) ys) (hm : m = ys.length)
    (h63 : n + ys.length ≤ maxLen) (hbytes : (n + ys.length) * 8 ≤ 140737488355328) (hbase : base ≤ w.heap.size)
    (h : ∀ v' w', w'.ownsRow base 3 1 v' (n + ys.length) (ints (xs ++ ys)) → w.grownBy w' v.ownBlock → (v'.ownBlock = v.ownBlock ∨ v'.ownBlock = some w.heap.size) → K (a.put o.dst v') w') :
    if Region.wanted o (yielded ops a.tmps) = true then Oper.wp P o a w K Q else E := by
  rw [if_pos hw]
  obtain ⟨a', c', e, hc, hn, hr⟩ := hrd
  simp only [Value.slice.injEq] at e
  obtain ⟨rfl, _, rfl⟩ := e
  subst hm
  rcases ao with _ | ad
  · obtain rfl := hn rfl
    have h0 : ys = [] := List.eq_nil_of_length_eq_zero (by omega)
    subst h0
    have hrun := run_append_owned_none (P := P) (w := w) base t o.type 3 i 1 ht hi v n (ints xs) hown
    unfold Oper.wp
    simp only [execOp, ho, resolve, invoke, builtin, Sem.run_bind, Sem.run_pure, Result.andThen_ok, List.map_toArray, List.map_cons, List.map_nil, hs, hx, List.length_nil, hrun]
    exact h v w (by rw [List.append_nil]; exact hown) ⟨rfl, rfl, rfl, Nat.le_refl _, fun _ _ _ => rfl⟩ (.inl rfl)
  · have hnews : ∀ j u, (ints ys)[j]? = some u → w.cell? (ad.add j) = some u := by
      rcases hr with hr | ⟨g, off, e, hg, hcell⟩
      · have h0 : ys = [] := List.eq_nil_of_length_eq_zero hr
        subst h0; intro j u hu; simp [ints] at hu
      · simp only [Option.some.injEq] at e; subst e; exact rd_news hcell
    obtain ⟨v', w', hrun, h2, h3, _, h5⟩ := run_append_own_at (P := P) w base t o.type 3 i (.int .i64 0) 1 8 ht hi hz hsize hby rfl (by decide) v n (ints xs) hown ad ys.length c (ints ys) (by simp [ints]) hnews ints_one h63 hbytes hbase
    unfold Oper.wp
    simp only [execOp, ho, resolve, invoke, builtin, Sem.run_bind, Sem.run_pure, Result.andThen_ok, List.map_toArray, List.map_cons, List.map_nil, hs, hx, hrun]
    rw [← ints_append] at h2
    exact h v' w' h2 h3 h5

/-- 'append(own, ys...)' behind a guard that says yes, in a plain region. -/
theorem wpList_append_rd_w {P : Program} {ops : Array Oper} {o : Oper} {a : Act} {w : World} {Q : Exit → Act → World → Prop} {rest : List Oper} (hw : Region.wanted o (yielded ops a.tmps) = true) (s x : Operand) (t : TypeId)
    (ho : o.op = .call { callee := .builtin .append, args := #[s, x], argTypes := #[t, t] })
    (base : Nat) (i : TypeInfo) (ht : P.underlying t = some (.slice 3)) (hi : P.info? 3 = some i) (hz : i.zero = some (.int .i64 0)) (hsize : i.size = 1) (hby : i.bytes = 8)
    (v : Value) (n : Nat) (xs : List Int) (hs : a.eval s = v) (hown : w.ownsRow base 3 1 v n (ints xs))
    (ao : Option Addr) (m c : Nat) (ys : List Int) (hx : a.eval x = .slice ao m c) (hrd : Rd w (.slice ao m c) ys) (hm : m = ys.length)
    (h63 : n + ys.length ≤ maxLen) (hbytes : (n + ys.length) * 8 ≤ 140737488355328) (hbase : base ≤ w.heap.size)
    (h : ∀ v' w', w'.ownsRow base 3 1 v' (n + ys.length) (ints (xs ++ ys)) → w.grownBy w' v.ownBlock → (v'.ownBlock = v.ownBlock ∨ v'.ownBlock = some w.heap.size) → wpList P ops Q rest (a.put o.dst v') w') : wpList P ops Q (o :: rest) a w :=
  wpList_step fun _ hK => step_append_rd_w hw s x t ho base i ht hi hz hsize hby v n xs hs hown ao m c ys hx hrd hm h63 hbytes hbase fun v' w' h1 h2 h3 => hK _ _ (h v' w' h1 h2 h3)

/-- The last one of a row, and the others. -/
theorem rdb_last {w : World} {B : Nat} {a : Option Addr} {n cap : Nat} {xs : List Int} {t : Int} (h : RdB w B (.slice a n cap) (xs ++ [t])) :
    ∃ g o, a = some ⟨g, o, none⟩ ∧ w.cell? ⟨g, o + xs.length, none⟩ = some (.int .i64 t) ∧ xs.length + 1 ≤ cap ∧ RdB w B (.slice (some ⟨g, o, none⟩) xs.length cap) xs := by
  obtain ⟨⟨a', cap', hv, hc, hn, h5⟩, h2⟩ := h
  simp only [Value.slice.injEq] at hv
  obtain ⟨rfl, rfl, rfl⟩ := hv
  rcases h5 with h5 | ⟨g, o, rfl, hlt, hf⟩
  · simp at h5
  · refine ⟨g, o, rfl, ?_, by simpa using hc, ⟨_, _, rfl, by simp at hc; omega, by simp, .inr ⟨g, o, rfl, hlt, fun j hj => ?_⟩⟩, fun g' hg' => h2 g' (by simpa [Value.ownBlock] using hg')⟩
    · have := hf xs.length (by simp)
      simpa [List.getD] using this
    · have := hf j (by simp; omega)
      rw [this]; simp [List.getD, List.getElem?_append_left hj]
theorem cell_fresh (w : World) (c : Array Value) (t : TypeId) (n i : Nat) (v : Value) (hn : n = w.heap.size) (h : c[i]? = some v) : (w.alloc (.cells c t)).cell? ⟨n, i, none⟩ = some v := (World.cell?_alloc_at _ _ _ _ hn).trans h
theorem frz_fresh (w : World) (c : Array Value) (t : TypeId) (n i : Nat) (hn : n = w.heap.size) : (w.alloc (.cells c t)).frozen? ⟨n, i, none⟩ = false := World.frozen?_alloc_at _ _ _ _ hn
theorem rdb_cell {w : World} {B : Nat} {a : Option Addr} {n cap k : Nat} {xs : List Int} (h : RdB w B (.slice a n cap) xs) (hk : k < xs.length) :
    ∃ g o, a = some ⟨g, o, none⟩ ∧ w.cell? ⟨g, o + k, none⟩ = some (.int .i64 (xs.getD k 0)) := by
  obtain ⟨⟨a', cap', hv, hc, hn, h5⟩, _⟩ := h
  simp only [Value.slice.injEq] at hv
  obtain ⟨rfl, rfl, rfl⟩ := hv
  rcases h5 with h5 | ⟨g, o, rfl, _, hf⟩
  · omega
  · exact ⟨g, o, rfl, hf k hk⟩
theorem rdb_drew {w : World} {B : Nat} {v : Value} {xs : List Int} (h : RdB w B v xs) : RdB w.drew B v xs := rdb_b h (drew_below w)
theorem ow_made_at (w : World) (b g : Nat) (hg : g = w.heap.size) (hb : b ≤ g) : Ow (w.alloc (.cells #[] 3)) b (.slice (some ⟨g, 0, none⟩) 0 0) [] := by
  subst hg; exact ow_made w b hb

end Go.Proofs.YtcbdpcalmafdiaaDoor
