/- Words for slices of numbers in memory, and small lemmas on them: nothing here names the program. -/
import Derived.WalkKit
import Derived.Lib.Hide
import Derived.Deep.QuietTactic
import Derived.Maps.OwnSet
import Derived.Laws.AppendOwnNone
import Derived.WalkSpells
import Derived.Maps.AppendAt
namespace Go.Proofs.YtcbdpcalmafdiaaDoor
open Go.RowKit

/-- Numbers as cells. -/
def ints (xs : List Int) : List Value := xs.map (Value.int .i64)
theorem ints_len (xs : List Int) : (ints xs).length = xs.length := by simp [ints]
theorem ints_nil : ints [] = [] := rfl
theorem ints_append (xs ys : List Int) : ints (xs ++ ys) = ints xs ++ ints ys := by simp [ints]
theorem ints_get (xs : List Int) (j : Nat) (h : j < xs.length) : (ints xs)[j]? = some (.int .i64 (xs.getD j 0)) := by
  simp [ints, List.getD, List.getElem?_eq_getElem h]
theorem ints_one {xs : List Int} : ∀ u ∈ ints xs, u.oneCell' = true := by
  intro u hu; simp [ints] at hu; obtain ⟨x, _, rfl⟩ := hu; rfl

/-- v is a slice that reads as the numbers xs in w. -/
def Rd (w : World) (v : Value) (xs : List Int) : Prop :=
  ∃ a cap, v = .slice a xs.length cap ∧ xs.length ≤ cap ∧ (a = none → cap = 0) ∧ (xs.length = 0 ∨ ∃ g off, a = some ⟨g, off, none⟩ ∧ g < w.heap.size ∧ ∀ j, j < xs.length → w.cell? ⟨g, off + j, none⟩ = some (.int .i64 (xs.getD j 0)))

/-- v is a slice of the call's own, from block b on, that holds the numbers xs. -/
abbrev Ow (w : World) (b : Nat) (v : Value) (xs : List Int) : Prop := w.ownsRow b 3 1 v xs.length (ints xs)

theorem own_block_lt {w : World} {b e s : Nat} {v : Value} {n : Nat} {xs : List Value} (h : w.ownsRow b e s v n xs) {g : Nat} {o : Nat} {sp} {l c : Nat} (hv : v = .slice (some ⟨g, o, sp⟩) l c) : g < w.heap.size := by
  subst hv; exact (h.lt g (by simp [Value.ownBlock])).2

/-- What is owned stays owned where nothing that was there has turned. -/
theorem own_below {w w' : World} {b e s : Nat} {v : Value} {n : Nat} {xs : List Value} (h : w.ownsRow b e s v n xs) (hb : Below w.heap.size w w') : w'.ownsRow b e s v n xs := by
  obtain ⟨h1, h2⟩ := h
  refine ⟨h1, ?_⟩
  rcases h2 with h2 | ⟨g, cap, cur, hv, hg, hh, r⟩
  · exact .inl h2
  · exact .inr ⟨g, cap, cur, hv, hg, by rw [hb.block g (Array.getElem?_eq_some_iff.1 hh).1]; exact hh, r⟩

theorem own_base {w : World} {b b' e s : Nat} {v : Value} {n : Nat} {xs : List Value} (h : w.ownsRow b e s v n xs) (hb : b' ≤ b) : w.ownsRow b' e s v n xs := by
  obtain ⟨h1, h2⟩ := h
  refine ⟨h1, ?_⟩
  rcases h2 with h2 | ⟨g, cap, cur, hv, hg, r⟩
  · exact .inl h2
  · exact .inr ⟨g, cap, cur, hv, Nat.le_trans hb hg, r⟩

theorem rd_below {w w' : World} {v : Value} {xs : List Int} (h : Rd w v xs) (hb : Below w.heap.size w w') : Rd w' v xs := by
  obtain ⟨a, cap, hv, hc, hn, h⟩ := h
  refine ⟨a, cap, hv, hc, hn, ?_⟩
  rcases h with h | ⟨g, off, ha, hg, hcell⟩
  · exact .inl h
  · exact .inr ⟨g, off, ha, Nat.lt_of_lt_of_le hg hb.size, fun j hj => (hb.cell hg).trans (hcell j hj)⟩

theorem own_shape {w : World} {b e s : Nat} {v : Value} {n : Nat} {xs : List Value} (h : w.ownsRow b e s v n xs) : ∃ a cap, v = .slice a n cap := by
  rcases h.2 with ⟨h, h0⟩ | ⟨g, cap, cur, h, _⟩
  · exact ⟨none, 0, by rw [h, h0]⟩
  · exact ⟨_, cap, h⟩
theorem below_alloc (w : World) (o : Obj) : Below w.heap.size w (w.alloc o) := (Below.refl _ _).alloc (Nat.le_refl _) _
theorem rd_alloc {w : World} {v : Value} {xs : List Int} (h : Rd w v xs) (o : Obj) : Rd (w.alloc o) v xs := rd_below h (below_alloc w o)

theorem drew_below (w : World) : Below w.heap.size w w.drew := (Below.refl _ _).drew
theorem rd_drew {w : World} {v : Value} {xs : List Int} (h : Rd w v xs) : Rd w.drew v xs := rd_below h (drew_below w)
theorem cell_new (w : World) (x : Value) (t : TypeId) : (w.alloc (.cells #[x] t)).cell? ⟨w.heap.size, 0, none⟩ = some x := by simp

/-- A cell that is there stays. -/
theorem cell_b {w w' : World} {p : Addr} {v : Value} (h : w.cell? p = some v) (hb : Below w.heap.size w w') : w'.cell? p = some v := (hb.cell (World.block_lt_of_cell? w p h)).trans h
theorem cell_gr {w w' : World} {row : Option Nat} {p : Addr} {v : Value} (h : w.cell? p = some v) (hg : w.grownBy w' row) (hne : ∀ g, row = some g → p.block ≠ g) : w'.cell? p = some v :=
  hg.cell h (by intro e; exact hne _ e.symm rfl)
theorem own_gr {w w' : World} {row : Option Nat} {b e s : Nat} {u : Value} {n : Nat} {xs : List Value} (h : w.ownsRow b e s u n xs) (hg : w.grownBy w' row) (hne : ∀ g g', row = some g → u.ownBlock = some g' → g' ≠ g) : w'.ownsRow b e s u n xs :=
  h.kept hg (by
    cases hu : u.ownBlock with
    | none => exact .inl rfl
    | some g' => exact .inr (fun e => hne g' g' e.symm hu rfl))
theorem frz_gr {w w' : World} {row : Option Nat} {p : Addr} (hl : p.block < w.heap.size) (hg : w.grownBy w' row) (hne : ∀ g, row = some g → p.block ≠ g) : w'.frozen? p = w.frozen? p :=
  World.frozen?_of_block (hg.block p.block hl (by intro e; exact hne _ e.symm rfl))
theorem cell_lt {w : World} {p : Addr} {v : Value} (h : w.cell? p = some v) : p.block < w.heap.size := World.block_lt_of_cell? w p h
theorem frz_b {w w' : World} {p : Addr} {b : Bool} (hl : p.block < w.heap.size) (h : w.frozen? p = b) (hb : Below w.heap.size w w') : w'.frozen? p = b := (hb.frozen hl).trans h
theorem own_lo {w : World} {b e s : Nat} {v : Value} {n : Nat} {xs : List Value} (h : w.ownsRow b e s v n xs) : ∀ g, v.ownBlock = some g → b ≤ g := fun g hg => (h.lt g hg).1
theorem own_hi {w : World} {b e s : Nat} {v : Value} {n : Nat} {xs : List Value} (h : w.ownsRow b e s v n xs) : ∀ g, v.ownBlock = some g → g < w.heap.size := fun g hg => (h.lt g hg).2
theorem below_gr {B : Nat} {a w w' : World} {row : Option Nat} (h : Below B a w) (hB : B ≤ w.heap.size) (hg : w.grownBy w' row) (hr : ∀ k, row = some k → B ≤ k) : Below B a w' := h.grown hg hB hr

theorem own_rd {w : World} {b : Nat} {v : Value} {xs : List Int} (h : Ow w b v xs) : Rd w v xs := by
  have h0 := h
  obtain ⟨h1, h2⟩ := h
  rcases h2 with ⟨rfl, h2⟩ | ⟨g, cap, cur, rfl, hg, hh, hn, r⟩
  · exact ⟨none, 0, by rw [h2], by omega, fun _ => rfl, .inl h2⟩
  · refine ⟨_, cap, rfl, hn, by simp, .inr ⟨g, 0, rfl, (Array.getElem?_eq_some_iff.1 hh).1, fun j hj => ?_⟩⟩
    rw [Nat.zero_add, World.ownsRow.cellAt h0 j (by omega)]
    exact ints_get xs j hj

theorem rd_nil (w : World) : Rd w (.slice none 0 0) [] := ⟨none, 0, rfl, Nat.le_refl _, fun _ => rfl, .inl rfl⟩
theorem ow_nil (w : World) (b : Nat) : Ow w b (.slice none 0 0) [] := World.ownsRow_nil _ _ _ _

/-- The cells of a slice that is read, as an append asks for them. -/
theorem rd_news {w : World} {g off : Nat} {xs : List Int} (hc : ∀ j, j < xs.length → w.cell? ⟨g, off + j, none⟩ = some (.int .i64 (xs.getD j 0))) :
    ∀ j u, (ints xs)[j]? = some u → w.cell? ((⟨g, off, none⟩ : Addr).add j) = some u := by
  intro j u hu
  have hj : j < xs.length := by
    have := (List.getElem?_eq_some_iff.1 hu).1; simpa [ints] using this
  rw [ints_get xs j hj] at hu
  have hadd : (⟨g, off, none⟩ : Addr).add j = ⟨g, off + j, none⟩ := by unfold Addr.add; split <;> simp_all
  rw [hadd, hc j hj]; exact hu

/-- 'append(own, ys...)', ys a slice that is read. -/
theorem wpList_append_rd {P : Program} {w : World} {ops : Array Oper} {rest : List Oper} {o : Oper} {a : Act} {Q : Exit → Act → World → Prop} (hgd : o.guard = none) (s x : Operand) (t : TypeId)
    (ho : o.op = .call { callee := .builtin .append, args := #[s, x], argTypes := #[t, t] })
    (base : Nat) (i : TypeInfo) (ht : P.underlying t = some (.slice 3)) (hi : P.info? 3 = some i) (hz : i.zero = some (.int .i64 0)) (hsize : i.size = 1) (hby : i.bytes = 8)
    (v : Value) (n : Nat) (xs : List Int) (hs : a.eval s = v) (hown : w.ownsRow base 3 1 v n (ints xs))
    (ao : Option Addr) (m c : Nat) (ys : List Int) (hx : a.eval x = .slice ao m c) (hrd : Rd w (.slice ao m c) ys) (hm : m = ys.length)
    (h63 : n + ys.length ≤ maxLen) (hbytes : (n + ys.length) * 8 ≤ 140737488355328) (hbase : base ≤ w.heap.size)
    (h : ∀ v' w', w'.ownsRow base 3 1 v' (n + ys.length) (ints (xs ++ ys)) → w.grownBy w' v.ownBlock → wpList P ops Q rest (a.put o.dst v') w') : wpList P ops Q (o :: rest) a w := by
  obtain ⟨a', c', e, hc, hn, hr⟩ := hrd
  simp only [Value.slice.injEq] at e
  obtain ⟨rfl, _, rfl⟩ := e
  subst hm
  rcases ao with _ | ad
  · obtain rfl := hn rfl
    have h0 : ys = [] := List.eq_nil_of_length_eq_zero (by omega)
    subst h0
    refine wpList_append_own_none hgd s x t ho base 3 i 1 ht hi v n (ints xs) hs hown hx ?_
    refine h v w ?_ ⟨rfl, rfl, rfl, Nat.le_refl _, fun _ _ _ => rfl⟩
    rw [List.append_nil]; exact hown
  · have hnews : ∀ j u, (ints ys)[j]? = some u → w.cell? (ad.add j) = some u := by
      rcases hr with hr | ⟨g, off, e, hg, hcell⟩
      · have h0 : ys = [] := List.eq_nil_of_length_eq_zero hr
        subst h0; intro j u hu; simp [ints] at hu
      · simp only [Option.some.injEq] at e; subst e; exact rd_news hcell
    refine wpList_append_own w hgd s x t ho base 3 i (.int .i64 0) 1 8 ht hi hz hsize hby rfl (by decide) v n (ints xs) hs hown ad ys.length c (ints ys) hx (by simp [ints]) hnews ints_one h63 hbytes hbase ?_
    intro v' w' h1 h2 _
    rw [← ints_append] at h1
    exact h v' w' h1 h2

/-- The same as one step of a region that draws its order; where the new slice lies is told too. -/
theorem step_append_rd {P : Program} {ops : Array Oper} {o : Oper} {a : Act} {w : World} {K : Act → World → Prop} {Q : Exit → Act → World → Prop} {E : Prop} (hgd : o.guard = none) (s x : Operand) (t : TypeId)
    (ho : o.op = .call { callee := .builtin .append, args := #[s, x], argTypes := #[t, t] })
    (base : Nat) (i : TypeInfo) (ht : P.underlying t = some (.slice 3)) (hi : P.info? 3 = some i) (hz : i.zero = some (.int .i64 0)) (hsize : i.size = 1) (hby : i.bytes = 8)
    (v : Value) (n : Nat) (xs : List Int) (hs : a.eval s = v) (hown : w.ownsRow base 3 1 v n (ints xs))
    (ao : Option Addr) (m c : Nat) (ys : List Int) (hx : a.eval x = .slice ao m c) (hrd : Rd w (.slice ao m c) ys) (hm : m = ys.length)
    (h63 : n + ys.length ≤ maxLen) (hbytes : (n + ys.length) * 8 ≤ 140737488355328) (hbase : base ≤ w.heap.size)
    (h : ∀ v' w', w'.ownsRow base 3 1 v' (n + ys.length) (ints (xs ++ ys)) → w.grownBy w' v.ownBlock → (v'.ownBlock = v.ownBlock ∨ v'.ownBlock = some w.heap.size) → K (a.put o.dst v') w') :
    if Region.wanted o (yielded ops a.tmps) = true then Oper.wp P o a w K Q else E := by
  have hw : Region.wanted o (yielded ops a.tmps) = true := by simp [Region.wanted, hgd]
  rw [if_pos hw]
  obtain ⟨a', c', e, hc, hn, hr⟩ := hrd
  simp only [Value.slice.injEq] at e
  obtain ⟨rfl, _, rfl⟩ := e
  subst hm
  rcases ao with _ | ad
  · obtain rfl := hn rfl
    have h0 : ys = [] := List.eq_nil_of_length_eq_zero (by omega)
    subst h0
    have hrun := run_append_owned_none (P := P) (w := w) base t o.type 3 i 1 ht hi v n (ints xs) hown
    unfold Oper.wp
    simp only [execOp, ho, resolve, invoke, builtin, Sem.run_bind, Sem.run_pure, Result.andThen_ok, List.map_toArray, List.map_cons, List.map_nil, hs, hx, List.length_nil, hrun]
    exact h v w (by rw [List.append_nil]; exact hown) ⟨rfl, rfl, rfl, Nat.le_refl _, fun _ _ _ => rfl⟩ (.inl rfl)
  · have hnews : ∀ j u, (ints ys)[j]? = some u → w.cell? (ad.add j) = some u := by
      rcases hr with hr | ⟨g, off, e, hg, hcell⟩
      · have h0 : ys = [] := List.eq_nil_of_length_eq_zero hr
        subst h0; intro j u hu; simp [ints] at hu
      · simp only [Option.some.injEq] at e; subst e; exact rd_news hcell
    obtain ⟨v', w', hrun, h2, h3, _, h5⟩ := run_append_own_at (P := P) w base t o.type 3 i (.int .i64 0) 1 8 ht hi hz hsize hby rfl (by decide) v n (ints xs) hown ad ys.length c (ints ys) (by simp [ints]) hnews ints_one h63 hbytes hbase
    unfold Oper.wp
    simp only [execOp, ho, resolve, invoke, builtin, Sem.run_bind, Sem.run_pure, Result.andThen_ok, List.map_toArray, List.map_cons, List.map_nil, hs, hx, hrun]
    rw [← ints_append] at h2
    exact h v' w' h2 h3 h5

theorem bcell {W w1 : World} (hb : Below W.heap.size W w1) : (∀ b o, b < W.heap.size → w1.cell? ⟨b, o, none⟩ = W.cell? ⟨b, o, none⟩) ∧ (∀ b o, b < W.heap.size → w1.frozen? ⟨b, o, none⟩ = W.frozen? ⟨b, o, none⟩) :=
  ⟨fun b o h => hb.cell (p := ⟨b, o, none⟩) h, fun b o h => hb.frozen (p := ⟨b, o, none⟩) h⟩

theorem below_trans {w w1 w2 : World} (h : Below w.heap.size w w1) (k : Below w1.heap.size w1 w2) : Below w.heap.size w w2 := h.trans (k.mono h.size)

theorem drewN_below (w : World) (n : Nat) : Below w.heap.size w (w.drewN n) := by
  induction n with
  | zero => exact Below.refl _ _
  | succ n ih => exact ⟨ih.os, ih.tape, ih.output, ih.size, ih.block⟩

theorem quiet_same {P : Program} {f : FuncId} {args : Array Value} {w : World} {n : Nat} {v : Value}
    (h : Calls P f args (w.drewN n) fun e w' => e = .returned v ∧ w.drewN n = w') : Calls P f args (w.drewN n) fun e w'' => e = .returned v ∧ ∃ m, w'' = w.drewN m :=
  h.mono fun _ _ ⟨he, hm⟩ => ⟨he, n, hm.symm⟩

theorem same_b {P : Program} {f : FuncId} {args : Array Value} {w : World} {v : Value} (h : Calls P f args w fun e w' => e = .returned v ∧ w = w') : Calls P f args w fun e w' => e = .returned v ∧ Below w.heap.size w w' :=
  h.mono fun _ _ ⟨he, hw⟩ => ⟨he, hw ▸ Below.refl _ _⟩
theorem drew_b {P : Program} {f : FuncId} {args : Array Value} {w : World} {v : Value} (h : Calls P f args w fun e w' => e = .returned v ∧ ∃ n, w' = w.drewN n) : Calls P f args w fun e w' => e = .returned v ∧ Below w.heap.size w w' :=
  h.mono fun _ _ ⟨he, n, hw⟩ => ⟨he, hw ▸ drewN_below w n⟩

theorem ow_made (w : World) (b : Nat) (hb : b ≤ w.heap.size) : Ow (w.alloc (.cells #[] 3)) b (.slice (some ⟨w.heap.size, 0, none⟩) 0 0) [] :=
  World.ownsRow_made w #[] 0 hb (by unfold maxLen; omega) rfl

theorem ow_made1 (w : World) (o : Obj) (b : Nat) (hb : b ≤ w.heap.size) : Ow ((w.alloc o).alloc (.cells #[] 3)) b (.slice (some ⟨w.heap.size + 1, 0, none⟩) 0 0) [] := by
  have h := ow_made (w.alloc o) b (by rw [World.size_alloc]; omega)
  rw [World.size_alloc] at h
  exact h

theorem ow_one (w : World) (x : Int) (b n : Nat) (hn : n = w.heap.size) (hb : b ≤ n) : Ow (w.alloc (.cells #[.int .i64 x] 3)) b (.slice (some ⟨n, 0, none⟩) 1 1) [x] := by
  subst hn
  exact World.ownsRow_lit w #[.int .i64 x] 1 hb (by unfold maxLen; omega) rfl

/-- Two slices do not lie in one block. -/
def NE (u v : Value) : Prop := ∀ g g', u.ownBlock = some g → v.ownBlock = some g' → g' ≠ g
theorem ne_nil (n c : Nat) (v : Value) : NE (.slice none n c) v := fun _ _ h => by simp [Value.ownBlock] at h
theorem ne_nil' (n c : Nat) (v : Value) : NE v (.slice none n c) := fun _ _ _ h => by simp [Value.ownBlock] at h
theorem ne_lt {u v : Value} {b : Nat} (hu : ∀ g, u.ownBlock = some g → g < b) (hv : ∀ g, v.ownBlock = some g → b ≤ g) : NE u v := fun g g' h h' => by have := hu g h; have := hv g' h'; omega
theorem ne_symm {u v : Value} (h : NE u v) : NE v u := fun g g' h1 h2 e => h g' g h2 h1 e.symm

/-- A thread's number. -/
def thr (t : Int) : Bool := decide (0 ≤ t) && decide (t < 6)

/-- The place of the first x, or -1. -/
def atF (xs : List Int) (x : Int) : Int := if x ∈ xs then (xs.idxOf x : Int) else -1
theorem atF_nonneg {xs : List Int} {x : Int} : 0 ≤ atF xs x ↔ x ∈ xs := by unfold atF; split <;> simp_all
theorem atF_neg {xs : List Int} {x : Int} : atF xs x < 0 ↔ x ∉ xs := by rw [← atF_nonneg]; omega
theorem mem_take_succ {xs : List Int} {k : Nat} (h : k < xs.length) (x : Int) : x ∈ xs.take (k + 1) ↔ x ∈ xs.take k ∨ x = xs[k] := by
  rw [List.take_succ_eq_append_getElem h]; simp only [List.mem_append, List.mem_singleton]
theorem not_take_succ {xs : List Int} {k : Nat} {x : Int} (h : k < xs.length) (hx : (xs[k] == x) = false) (hn : x ∉ xs.take k) : x ∉ xs.take (k + 1) := by
  rw [mem_take_succ h]; intro h'; rcases h' with h' | h'
  · exact hn h'
  · subst h'; simp at hx
theorem atF_hit {xs : List Int} {k : Nat} {x : Int} (h : k < xs.length) (hx : (xs[k] == x) = true) (hn : x ∉ xs.take k) : atF xs x = k := by
  have e : xs[k] = x := by simpa using hx
  have hm : x ∈ xs := e ▸ List.getElem_mem h
  unfold atF; rw [if_pos hm]
  have h1 : xs = xs.take k ++ xs.drop k := (List.take_append_drop k xs).symm
  have h2 : xs.drop k = x :: xs.drop (k + 1) := by rw [List.drop_eq_getElem_cons h, e]
  rw [h1, h2, List.idxOf_append, if_neg hn]; simp; omega
theorem atF_miss {xs : List Int} {k : Nat} {x : Int} (h : xs.length ≤ k) (hn : x ∉ xs.take k) : atF xs x = -1 := by
  rw [List.take_of_length_le h] at hn; unfold atF; rw [if_neg hn]

/-- All are threads, none stands twice. -/
def dist (xs : List Int) : Bool := decide (∀ x ∈ xs, thr x = true) && decide xs.Nodup
/-- A list of threads that wait. -/
def vt (xs : List Int) : Bool := decide (xs.length ≤ 6) && dist xs
theorem dist_nil : dist [] = true := by simp [dist]
theorem dist_iff {xs : List Int} : dist xs = true ↔ (∀ x ∈ xs, thr x = true) ∧ xs.Nodup := by simp [dist]
theorem dist_take_succ {xs : List Int} {k : Nat} (h : k < xs.length) : dist (xs.take (k + 1)) = true ↔ dist (xs.take k) = true ∧ thr xs[k] = true ∧ xs[k] ∉ xs.take k := by
  rw [dist_iff, dist_iff, List.take_succ_eq_append_getElem h, List.nodup_append]
  constructor
  · rintro ⟨h1, h2, _, h3⟩
    exact ⟨⟨fun x hx => h1 x (List.mem_append_left _ hx), h2⟩, h1 _ (List.mem_append_right _ (List.mem_singleton.2 rfl)), fun hm => h3 _ hm _ (List.mem_singleton.2 rfl) rfl⟩
  · rintro ⟨⟨h1, h2⟩, h3, h4⟩
    refine ⟨fun x hx => ?_, h2, List.pairwise_singleton _ _, fun a ha b hb e => ?_⟩
    · rcases List.mem_append.1 hx with hx | hx
      · exact h1 x hx
      · rw [List.mem_singleton.1 hx]; exact h3
    · rw [List.mem_singleton.1 hb] at e; exact h4 (e ▸ ha)
theorem dist_take {xs : List Int} (k : Nat) (h : dist xs = true) : dist (xs.take k) = true := by
  rw [dist_iff] at h ⊢
  exact ⟨fun x hx => h.1 x (List.mem_of_mem_take hx), h.2.sublist (List.take_sublist _ _)⟩
theorem dist_bad {xs : List Int} {k : Nat} (h : k < xs.length) (hb : thr xs[k] = false ∨ xs[k] ∈ xs.take k) : dist xs = false := by
  rw [Bool.eq_false_iff]; intro hd
  obtain ⟨_, h2, h3⟩ := (dist_take_succ h).1 (dist_take (k + 1) hd)
  rcases hb with hb | hb
  · rw [hb] at h2; cases h2
  · exact h3 hb
theorem dist_step {xs : List Int} {k : Nat} (h : k < xs.length) (h1 : dist (xs.take k) = true) (h2 : thr xs[k] = true) (h3 : xs[k] ∉ xs.take k) : dist (xs.take (k + 1)) = true := (dist_take_succ h).2 ⟨h1, h2, h3⟩
theorem dist_all {xs : List Int} {k : Nat} (h : xs.length ≤ k) (h1 : dist (xs.take k) = true) : dist xs = true := by rwa [List.take_of_length_le h] at h1
theorem vt_long {xs : List Int} (h : 6 < xs.length) : vt xs = false := by unfold vt; rw [decide_eq_false (by omega)]; rfl
theorem vt_dist {xs : List Int} (h : xs.length ≤ 6) : vt xs = dist xs := by unfold vt; rw [decide_eq_true h]; rfl
theorem vt_bad {xs : List Int} (h : dist xs = false) : vt xs = false := by unfold vt; rw [h, Bool.and_false]

/-- Equal lists. -/
def eqB (xs ys : List Int) : Bool := decide (xs = ys)
theorem eqB_len {xs ys : List Int} (h : xs.length ≠ ys.length) : eqB xs ys = false := decide_eq_false (fun e => h (by rw [e]))
theorem eqB_self (xs : List Int) : eqB xs xs = true := decide_eq_true rfl
theorem eqB_bad {xs ys : List Int} {k : Nat} (h : k < xs.length) (h' : k < ys.length) (hx : (xs[k] != ys[k]) = true) : eqB xs ys = false :=
  decide_eq_false (fun e => by subst e; simp at hx)
theorem eqB_all {xs ys : List Int} {k : Nat} (hl : xs.length = ys.length) (h : xs.length ≤ k) (ht : xs.take k = ys.take k) : eqB xs ys = true := by
  rw [List.take_of_length_le h, List.take_of_length_le (by omega)] at ht
  exact decide_eq_true ht
theorem take_eq_succ {xs ys : List Int} {k : Nat} (h : k < xs.length) (h' : k < ys.length) (ht : xs.take k = ys.take k) (hx : (xs[k] != ys[k]) = false) : xs.take (k + 1) = ys.take (k + 1) := by
  rw [List.take_succ_eq_append_getElem h, List.take_succ_eq_append_getElem h', ht]; simp at hx; rw [hx]

theorem eqB_true {P : Program} {f : FuncId} {args : Array Value} {w : World} {R : World → Prop} {xs : List Int} (h : Calls P f args w fun e w' => e = .returned (.bool (eqB xs xs)) ∧ R w') : Calls P f args w fun e w' => e = .returned (.bool true) ∧ R w' := by rw [eqB_self] at h; exact h

/-- Is x among them? -/
def hasB (xs : List Int) (x : Int) : Bool := decide (x ∈ xs)
theorem hasB_hit {xs : List Int} {k : Nat} {x : Int} (h : k < xs.length) (hx : xs[k] = x) : hasB xs x = true := decide_eq_true (hx ▸ List.getElem_mem h)
theorem hasB_miss {xs : List Int} {k : Nat} {x : Int} (h : xs.length ≤ k) (hn : x ∉ xs.take k) : hasB xs x = false := by
  rw [List.take_of_length_le h] at hn; exact decide_eq_false hn

theorem hasB_at (xs : List Int) (x : Int) : decide (0 ≤ atF xs x) = hasB xs x := by unfold hasB; rw [decide_eq_decide, atF_nonneg]
theorem hasB_at' (xs : List Int) (x : Int) : decide (atF xs x < 0) = !hasB xs x := by unfold hasB; rw [← decide_not, decide_eq_decide, atF_neg]

/-- May the thread be put at the end? -/
def waitOk (xs : List Int) (t : Int) : Bool := vt xs && thr t && !hasB xs t
def waitL (xs : List Int) (t : Int) : List Int := if waitOk xs t = true then xs ++ [t] else []
theorem waitOk_len {xs : List Int} {t : Int} (h : waitOk xs t = true) : xs.length ≤ 6 := by
  unfold waitOk vt at h; simp at h; omega
/-- The list if the condition is valid, else none. -/
def okL (b : Bool) (xs : List Int) : List Int := if b = true then xs else []
theorem okL_true (xs : List Int) : okL true xs = xs := rfl
theorem okL_false (xs : List Int) : okL false xs = [] := rfl
theorem okL_len (b : Bool) (xs : List Int) : (okL b xs).length ≤ xs.length := by unfold okL; split <;> simp
theorem waitL_len (xs : List Int) (t : Int) : (waitL xs t).length ≤ xs.length + 1 := by unfold waitL; split <;> simp
theorem vt_len {xs : List Int} (h : vt xs = true) : xs.length ≤ 6 := by unfold vt at h; simp at h; omega

/-- What 'mark' lays: k, k + 1, .. -/
def marks (k : Int) : Nat → List Int
  | 0 => []
  | n + 1 => k :: marks (k + 1) n
theorem marks_len (n : Nat) : ∀ k, (marks k n).length = n := by
  induction n with
  | zero => intro k; rfl
  | succ n ih => intro k; simp [marks, ih]
theorem marks_get (n : Nat) : ∀ (k : Int) (j : Nat), j < n → (marks k n).getD j 0 = k + j := by
  induction n with
  | zero => intro k j h; omega
  | succ n ih => intro k j h; cases j with
    | zero => simp [marks]
    | succ j => have := ih (k + 1) j (by omega); simp only [marks, List.getD_cons_succ, this]; push_cast; omega

theorem marks_snoc (n : Nat) : ∀ k : Int, marks k (n + 1) = marks k n ++ [k + n] := by
  induction n with
  | zero => intro k; simp [marks]
  | succ n ih => intro k; have := ih (k + 1); rw [marks, this, marks]; simp; omega

/-- A row that is filled from its head: first the ones of ys, behind them what was there. -/
theorem set_fill {ys xs : List Int} {x : Int} (h : ys.length < xs.length) : (ints (ys ++ xs.drop ys.length)).set ys.length (.int .i64 x) = ints (ys ++ [x] ++ xs.drop (ys.length + 1)) := by
  unfold ints
  rw [List.drop_eq_getElem_cons h, List.map_append, List.set_append_right _ _ (by simp), List.length_map, Nat.sub_self, List.map_cons, List.set_cons_zero]
  simp only [List.map_append, List.map_cons, List.append_assoc, List.cons_append, List.nil_append]
theorem drop_fill {ys xs : List Int} {k : Nat} (hk : k = xs.length) (_hy : ys.length = xs.length) : ys ++ xs.drop k = ys := by rw [List.drop_of_length_le (by omega)]; simp
/-- The row of a 'make' behind k rounds. -/
def fillR (xs : List Int) (k : Nat) : List Int := xs.take k ++ (List.replicate xs.length (0 : Int)).drop k
theorem fillR_zero (xs : List Int) : fillR xs 0 = List.replicate xs.length 0 := by simp [fillR]
theorem fillR_all (xs : List Int) : fillR xs xs.length = xs := by simp [fillR]
theorem fillR_len (xs : List Int) (k : Nat) (h : k ≤ xs.length) : (fillR xs k).length = xs.length := by simp [fillR]; omega
theorem fillR_set {xs : List Int} {k : Nat} (h : k < xs.length) : (ints (fillR xs k)).set k (.int .i64 xs[k]) = ints (fillR xs (k + 1)) := by
  have hl : (xs.take k).length = k := by simp; omega
  have := set_fill (ys := xs.take k) (xs := List.replicate xs.length (0 : Int)) (x := xs[k]) (by simp; omega)
  rw [hl] at this
  unfold fillR; rw [this, List.take_succ_eq_append_getElem h]
theorem fillM_len (k : Int) (xs : List Int) (j : Nat) (h : j ≤ xs.length) : (marks k j ++ xs.drop j).length = xs.length := by simp [marks_len]; omega
theorem fillM_set (k : Int) {xs : List Int} {j : Nat} (h : j < xs.length) : (ints (marks k j ++ xs.drop j)).set j (.int .i64 (k + j)) = ints (marks k (j + 1) ++ xs.drop (j + 1)) := by
  have := set_fill (ys := marks k j) (xs := xs) (x := k + j) (by rw [marks_len]; exact h)
  rw [marks_len] at this
  rw [this, marks_snoc]
theorem ints_set_get {xs : List Int} {j : Nat} (h : j < xs.length) : ∃ x, (ints xs)[j]? = some (.int .i64 x) := ⟨_, ints_get xs j h⟩
theorem ints_made (n : Nat) : (madeCells (Value.int .i64 0).cells (n * 1)).toList = ints (List.replicate n 0) := by
  rw [Nat.mul_one]; show (madeCells #[Value.int .i64 0] n).toList = _
  rw [toList_madeCells_one]; simp [ints]

/-- The set of the first k numbers. -/
noncomputable def Sd (xs : List Int) (k : Nat) : DataW Unit := Maps.setOf (.lit (.bool true)) ((xs.take k).map (fun x => Lit.int .i64 x))
theorem Sd_zero (xs : List Int) : Sd xs 0 = .map [] := rfl
theorem Sd_succ {xs : List Int} {k : Nat} (h : k < xs.length) : Sd xs (k + 1) = (Sd xs k).put (.int .i64 xs[k]) (.lit (.bool true)) := by
  unfold Sd; rw [List.take_succ_eq_append_getElem h, List.map_append]; exact Maps.setOf_snoc _ _ _
theorem Sd_isMap (xs : List Int) (k : Nat) : Maps.IsMap (Sd xs k) := (Maps.tidy_setOf _ _ (by intro x hx; obtain ⟨a, _, rfl⟩ := List.mem_map.1 hx; trivial)).isMap
theorem Sd_at (xs : List Int) (x : Int) (k : Nat) (h : k ≤ xs.length) : (Sd xs k).atKey (.int .i64 x) (.lit (.bool false)) = .lit (.bool (hasB (xs.take k) x)) := by
  induction k with
  | zero => rw [Sd_zero]; rfl
  | succ k ih =>
    rw [Sd_succ (by omega)]
    by_cases e : xs[k] = x
    · rw [e, Maps.atKey_put_same (Sd_isMap xs k) (by trivial)]
      have : hasB (xs.take (k + 1)) x = true := decide_eq_true ((mem_take_succ (by omega) x).2 (.inr e.symm))
      rw [this]
    · rw [Maps.atKey_put_other (by intro h'; injection h' with _ h'; exact e h'.symm), ih (by omega)]
      have : hasB (xs.take (k + 1)) x = hasB (xs.take k) x := by
        unfold hasB; rw [decide_eq_decide, mem_take_succ (by omega) x]
        exact ⟨fun h' => h'.elim id (fun h' => absurd h'.symm e), .inl⟩
      rw [this]
theorem plainElem_bool_inv {P : Program} {e : TypeId} (he : P.underlying e = some .bool) {v : Value} {z : DataW Unit × List MemPlace} (h : plainElem P e v = some z) : ∃ a, v = .bool a ∧ z = (.lit (.bool a), []) := by
  unfold plainElem at h
  rw [he] at h
  cases v <;> simp at h
  exact ⟨_, rfl, h.symm⟩

end Go.Proofs.YtcbdpcalmafdiaaDoor
