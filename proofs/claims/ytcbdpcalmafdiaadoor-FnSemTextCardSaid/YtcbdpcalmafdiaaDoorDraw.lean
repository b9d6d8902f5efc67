/- The reader of draws: words for it, and the contracts of l13Open, pick and num. -/
import Derived.Test.YtcbdpcalmafdiaaDoorLeaf
import Derived.Laws.BitsAllLaws
import Derived.Laws.BitsLemmas
import Derived.Deep.RegionHeld3
import Derived.Laws.Rows
import Derived.IntWalk
namespace Go.Proofs.YtcbdpcalmafdiaaDoor
open Go.RowKit

/-- v is a slice of n bytes. -/
def RdY (w : World) (v : Value) (n : Nat) : Prop :=
  ∃ a cap, v = .slice a n cap ∧ n ≤ cap ∧ (a = none → cap = 0) ∧ (n = 0 ∨ ∃ g off, a = some ⟨g, off, none⟩ ∧ g < w.heap.size ∧ ∃ f : Nat → Nat, ∀ j, j < n → w.cell? ⟨g, off + j, none⟩ = some (.int .u8 (f j : Int)) ∧ f j ≤ 255)
/-- Block r is a reader of draws that has drawn N times at most. -/
def Rdr (w : World) (r N : Nat) : Prop :=
  ∃ (a : Option Addr) (n cap k : Nat), w.cell? ⟨r, 0, none⟩ = some (.slice a n cap) ∧ w.cell? ⟨r, 1, none⟩ = some (.int .i64 (k : Int)) ∧ w.frozen? ⟨r, 1, none⟩ = false ∧ k ≤ N ∧ n ≤ 2000 ∧
    (n = 0 ∨ ∃ g off, a = some ⟨g, off, none⟩ ∧ g < w.heap.size ∧ g < r ∧ ∃ f : Nat → Nat, ∀ j, j < n → w.cell? ⟨g, off + j, none⟩ = some (.int .u8 (f j : Int)) ∧ f j ≤ 255)
/-- v is a slice of numbers that lies from block B on. -/
def RdB (w : World) (B : Nat) (v : Value) (xs : List Int) : Prop := Rd w v xs ∧ ∀ g, v.ownBlock = some g → B ≤ g ∧ g < w.heap.size

theorem rdy_b {w w' : World} {v : Value} {n : Nat} (h : RdY w v n) (hb : Below w.heap.size w w') : RdY w' v n := by
  obtain ⟨a, cap, hv, hc, hn, h5⟩ := h
  refine ⟨a, cap, hv, hc, hn, ?_⟩
  rcases h5 with h5 | ⟨g, off, e, hg, f, hf⟩
  · exact .inl h5
  · exact .inr ⟨g, off, e, Nat.lt_of_lt_of_le hg hb.size, f, fun j hj => ⟨cell_b (hf j hj).1 hb, (hf j hj).2⟩⟩
theorem rdr_lt {w : World} {r N : Nat} (h : Rdr w r N) : r < w.heap.size := by
  obtain ⟨a, n, cap, k, h0, _⟩ := h
  exact World.block_lt_of_cell? w _ h0
theorem rdr_b {w w' : World} {r N : Nat} (h : Rdr w r N) (hb : Below w.heap.size w w') : Rdr w' r N := by
  obtain ⟨a, n, cap, k, h0, h1, h2, h3, h4, h5⟩ := h
  refine ⟨a, n, cap, k, cell_b h0 hb, cell_b h1 hb, frz_b (cell_lt h1) h2 hb, h3, h4, ?_⟩
  rcases h5 with h5 | ⟨g, off, e, hg, hne, f, hf⟩
  · exact .inl h5
  · exact .inr ⟨g, off, e, Nat.lt_of_lt_of_le hg hb.size, hne, f, fun j hj => ⟨cell_b (hf j hj).1 hb, (hf j hj).2⟩⟩
theorem rdr_gr {w w' : World} {row : Option Nat} {r N : Nat} (h : Rdr w r N) (hg : w.grownBy w' row) (hr : ∀ k, row = some k → r < k) : Rdr w' r N := by
  obtain ⟨a, n, cap, k, h0, h1, h2, h3, h4, h5⟩ := h
  refine ⟨a, n, cap, k, cell_gr h0 hg (fun k hk => by have := hr k hk; show r ≠ k; omega), cell_gr h1 hg (fun k hk => by have := hr k hk; show r ≠ k; omega), (frz_gr (cell_lt h1) hg (fun k hk => by have := hr k hk; show r ≠ k; omega)).trans h2, h3, h4, ?_⟩
  rcases h5 with h5 | ⟨g, off, e, hl, hne, f, hf⟩
  · exact .inl h5
  · exact .inr ⟨g, off, e, Nat.lt_of_lt_of_le hl hg.size, hne, f, fun j hj => ⟨cell_gr (hf j hj).1 hg (fun k hk => by have := hr k hk; show g ≠ k; omega), (hf j hj).2⟩⟩
theorem gr_set (w : World) (p : Addr) (u : Value) : w.grownBy (w.setCell p u) (some p.block) :=
  ⟨rfl, rfl, rfl, by simp [World.setCell], fun i _ hne => Below.heap_setCell w p u i (by rintro rfl; exact hne rfl)⟩
theorem rdr_set {w : World} {r N : Nat} {p : Addr} (h : Rdr w r N) (hp : r < p.block) (u : Value) : Rdr (w.setCell p u) r N := rdr_gr h (gr_set w p u) (fun k hk => by injection hk with hk; omega)
theorem ne_off {b o o' : Nat} (h : o ≠ o') : (⟨b, o, none⟩ : Addr) ≠ ⟨b, o', none⟩ := fun e => h (by injection e)
theorem ne_blk {b b' o o' : Nat} (h : b ≠ b') : (⟨b, o, none⟩ : Addr) ≠ ⟨b', o', none⟩ := fun e => h (by injection e)
theorem cell_set {w : World} {p q : Addr} {u v : Value} (h : w.cell? q = some v) (hne : q ≠ p) : (w.setCell p u).cell? q = some v := (World.cell?_setCell_other w p q u (fun e => hne e.symm)).trans h
theorem own_set {w : World} {b e s : Nat} {v : Value} {n : Nat} {xs : List Value} {p : Addr} (h : w.ownsRow b e s v n xs) (hp : ∀ g, v.ownBlock = some g → g ≠ p.block) (u : Value) : (w.setCell p u).ownsRow b e s v n xs :=
  own_gr h (gr_set w p u) (fun g g' h1 h2 => by injection h1 with h1; have := hp g' h2; omega)
theorem rdr_mono {w : World} {r N M : Nat} (h : Rdr w r N) (hm : N ≤ M) : Rdr w r M := by
  obtain ⟨a, n, cap, k, h0, h1, h2, h3, h4⟩ := h
  exact ⟨a, n, cap, k, h0, h1, h2, Nat.le_trans h3 hm, h4⟩
theorem gs_b {w w' : World} {r : Nat} (h : Below w.heap.size w w') : w.grownBy w' (some r) := ⟨h.os, h.tape, h.output, h.size, fun i hi _ => h.block i hi⟩
theorem gs_trans {a b c : World} {r : Nat} (h : a.grownBy b (some r)) (k : b.grownBy c (some r)) : a.grownBy c (some r) :=
  ⟨k.os.trans h.os, k.tape.trans h.tape, k.output.trans h.output, Nat.le_trans h.size k.size, fun i hi hn => (k.block i (Nat.lt_of_lt_of_le hi h.size) hn).trans (h.block i hi hn)⟩
theorem gs_refl (w : World) (r : Nat) : w.grownBy w (some r) := gs_b (Below.refl _ _)
theorem gs_set {a w : World} {r : Nat} (h : a.grownBy w (some r)) {p : Addr} (hp : p.block = r ∨ a.heap.size ≤ p.block) (u : Value) : a.grownBy (w.setCell p u) (some r) :=
  ⟨h.os, h.tape, h.output, by simpa [World.setCell] using h.size, fun i hi hne => (Below.heap_setCell w p u i (by
    rintro rfl
    rcases hp with hp | hp
    · exact hne (by rw [hp])
    · omega)).trans (h.block i hi hne)⟩
theorem gs_below {B : Nat} {a w w' : World} {r : Nat} (h : Below B a w) (hg : w.grownBy w' (some r)) (hB : B ≤ w.heap.size) (hr : B ≤ r) : Below B a w' := h.grown hg hB (fun k hk => by injection hk with hk; omega)
theorem cell_gs {w w' : World} {r : Nat} {p : Addr} {v : Value} (h : w.cell? p = some v) (hg : w.grownBy w' (some r)) (hne : p.block ≠ r) : w'.cell? p = some v := cell_gr h hg (fun g hk => by injection hk with hk; omega)
theorem frz_gs {w w' : World} {r : Nat} {p : Addr} {b : Bool} (hl : p.block < w.heap.size) (h : w.frozen? p = b) (hg : w.grownBy w' (some r)) (hne : p.block ≠ r) : w'.frozen? p = b := (frz_gr hl hg (fun g hk => by injection hk with hk; omega)).trans h
theorem rdb_rd {w : World} {B : Nat} {v : Value} {xs : List Int} (h : RdB w B v xs) : Rd w v xs := h.1
theorem rdb_nil (w : World) (B : Nat) : RdB w B (.slice none 0 0) [] := ⟨rd_nil w, fun g h => by simp [Value.ownBlock] at h⟩
theorem rdb_b {w w' : World} {B : Nat} {v : Value} {xs : List Int} (h : RdB w B v xs) (hb : Below w.heap.size w w') : RdB w' B v xs := ⟨rd_below h.1 hb, fun g hg => ⟨(h.2 g hg).1, Nat.lt_of_lt_of_le (h.2 g hg).2 hb.size⟩⟩
theorem rdb_mono {w : World} {B B' : Nat} {v : Value} {xs : List Int} (h : RdB w B v xs) (hB : B' ≤ B) : RdB w B' v xs := ⟨h.1, fun g hg => ⟨Nat.le_trans hB (h.2 g hg).1, (h.2 g hg).2⟩⟩
theorem rdb_gs {w w' : World} {B r : Nat} {v : Value} {xs : List Int} (h : RdB w B v xs) (hg : w.grownBy w' (some r)) (hr : r < B) : RdB w' B v xs := by
  obtain ⟨⟨a, cap, hv, hc, hn, h5⟩, h2⟩ := h
  refine ⟨⟨a, cap, hv, hc, hn, ?_⟩, fun g hg' => ⟨(h2 g hg').1, Nat.lt_of_lt_of_le (h2 g hg').2 hg.size⟩⟩
  rcases h5 with h5 | ⟨g, off, e, hlt, hf⟩
  · exact .inl h5
  · have hB : B ≤ g := (h2 g (by subst hv; subst e; rfl)).1
    exact .inr ⟨g, off, e, Nat.lt_of_lt_of_le hlt hg.size, fun j hj => cell_gs (hf j hj) hg (show g ≠ r by omega)⟩
theorem rdb_gr {w w' : World} {row : Option Nat} {B : Nat} {v : Value} {xs : List Int} (h : RdB w B v xs) (hg : w.grownBy w' row) (hne : ∀ g g', row = some g → v.ownBlock = some g' → g' ≠ g) : RdB w' B v xs := by
  obtain ⟨⟨a, cap, hv, hc, hn, h5⟩, h2⟩ := h
  refine ⟨⟨a, cap, hv, hc, hn, ?_⟩, fun g hg' => ⟨(h2 g hg').1, Nat.lt_of_lt_of_le (h2 g hg').2 hg.size⟩⟩
  rcases h5 with h5 | ⟨g, off, e, hlt, hf⟩
  · exact .inl h5
  · exact .inr ⟨g, off, e, Nat.lt_of_lt_of_le hlt hg.size, fun j hj => cell_gr (hf j hj) hg (fun k hk => hne k g hk (by subst hv; subst e; rfl))⟩
theorem rdb_set {w : World} {B : Nat} {v : Value} {xs : List Int} {p : Addr} (h : RdB w B v xs) (hp : ∀ g, v.ownBlock = some g → g ≠ p.block) (u : Value) : RdB (w.setCell p u) B v xs :=
  rdb_gr h (gr_set w p u) (fun g g' h1 h2 => by injection h1 with h1; have := hp g' h2; omega)
theorem rdb_lo {w : World} {B : Nat} {v : Value} {xs : List Int} (h : RdB w B v xs) : ∀ g, v.ownBlock = some g → B ≤ g := fun g hg => (h.2 g hg).1
theorem rdb_hi {w : World} {B : Nat} {v : Value} {xs : List Int} (h : RdB w B v xs) : ∀ g, v.ownBlock = some g → g < w.heap.size := fun g hg => (h.2 g hg).2
theorem gs_row {a w w' : World} {r : Nat} {row : Option Nat} (h : a.grownBy w (some r)) (hg : w.grownBy w' row) (hr : ∀ k, row = some k → a.heap.size ≤ k) : a.grownBy w' (some r) :=
  ⟨hg.os.trans h.os, hg.tape.trans h.tape, hg.output.trans h.output, Nat.le_trans h.size hg.size, fun i hi hn => (hg.block i (Nat.lt_of_lt_of_le hi h.size) (fun e => by have := hr i e.symm; omega)).trans (h.block i hi hn)⟩
theorem ow_rdb {w : World} {b : Nat} {v : Value} {xs : List Int} (h : Ow w b v xs) : RdB w b v xs := ⟨own_rd h, fun g hg => ⟨own_lo h g hg, own_hi h g hg⟩⟩
theorem ow_eq {w : World} {b : Nat} {v : Value} {n : Nat} {xs ys : List Int} (h : w.ownsRow b 3 1 v n (ints ys)) (e : ys = xs) (hn : n = xs.length) : Ow w b v xs := by
  subst e; subst hn; exact h
/-- A row of numbers as a literal lays it. -/
theorem rd_lit (w : World) (cs : Array Value) (xs : List Int) (h : cs.toList = ints xs) : Rd (w.alloc (.cells cs 3)) (.slice (some ⟨w.heap.size, 0, none⟩) xs.length xs.length) xs := by
  refine ⟨_, _, rfl, Nat.le_refl _, by simp, .inr ⟨_, _, rfl, by simp, fun j hj => ?_⟩⟩
  have hc : (w.alloc (.cells cs 3)).cell? ⟨w.heap.size, 0 + j, none⟩ = cs[j]? := by
    rw [Nat.zero_add]; exact cell_of_row _ _ j cs 3 (0, 0) (heap_alloc_new w _)
  rw [hc, ← Array.getElem?_toList, h]
  exact ints_get xs j hj

theorem rdb_lit (w : World) (cs : Array Value) (xs : List Int) (h : cs.toList = ints xs) (B g n : Nat) (hg : g = w.heap.size) (hn : n = xs.length) (hB : B ≤ g) : RdB (w.alloc (.cells cs 3)) B (.slice (some ⟨g, 0, none⟩) n n) xs := by
  subst hg; subst hn
  exact ⟨rd_lit w cs xs h, fun g hg => by simp [Value.ownBlock] at hg; simp; omega⟩
theorem ofInt_i64 (a : Nat) (ha : a < 9223372036854775808) : (BitVec.ofInt 64 (a : Int)).toNat = a := by
  rw [BitVec.ofInt_natCast, BitVec.toNat_ofNat]; exact Nat.mod_eq_of_lt (by omega)
theorem i64_xor_nat (a b : Nat) (ha : a < 9223372036854775808) (hb : b < 9223372036854775808) : bits .xor .i64 (a : Int) (b : Int) = ((a ^^^ b : Nat) : Int) := by
  have hx : a ^^^ b < 2 ^ 63 := Nat.xor_lt_two_pow (by omega) (by omega)
  show IntKind.i64.wrap ((BitVec.ofInt 64 (a : Int) ^^^ BitVec.ofInt 64 (b : Int)).toNat : Int) = _
  rw [BitVec.toNat_xor, ofInt_i64 a ha, ofInt_i64 b hb, IntKind.wrap_i64]
  omega

/-- What pick hands back: a number below n, or 0. -/
def Picked (w : World) (r : Nat) (n : Int) (N : Nat) (e : Ending) (w' : World) : Prop :=
  ∃ x : Int, e = .returned (.int .i64 x) ∧ 0 ≤ x ∧ (x < n ∨ x = 0) ∧ Rdr w' r (N + 1) ∧ w.grownBy w' (some r)
theorem picked_mk {w : World} {r m cap k N : Nat} {a : Option Addr} (h0 : w.cell? ⟨r, 0, none⟩ = some (.slice a m cap)) (h1 : w.cell? ⟨r, 1, none⟩ = some (.int .i64 (k : Int))) (h2 : w.frozen? ⟨r, 1, none⟩ = false) (h3 : k ≤ N) (h4 : m ≤ 2000)
    (h5 : m = 0 ∨ ∃ g off, a = some ⟨g, off, none⟩ ∧ g < w.heap.size ∧ g < r ∧ ∃ f : Nat → Nat, ∀ j, j < m → w.cell? ⟨g, off + j, none⟩ = some (.int .u8 (f j : Int)) ∧ f j ≤ 255) (n : Nat) :
    Rdr ((w.setCell ⟨r, 1, none⟩ (.int .i64 ((k : Int) + 1))).drewN n) r (N + 1) ∧ w.grownBy ((w.setCell ⟨r, 1, none⟩ (.int .i64 ((k : Int) + 1))).drewN n) (some r) := by
  have hg : w.grownBy ((w.setCell ⟨r, 1, none⟩ (.int .i64 ((k : Int) + 1))).drewN n) (some r) := gs_trans (gs_set (gs_refl w r) (.inl rfl) _) (gs_b (drewN_below _ n))
  refine ⟨⟨a, m, cap, k + 1, ?_, ?_, ?_, by omega, h4, ?_⟩, hg⟩
  · exact cell_b ((World.cell?_setCell_other _ _ _ _ (by simp)).trans h0) (drewN_below _ n)
  · exact cell_b (World.cell?_setCell_same _ _ _ h1) (drewN_below _ n)
  · exact frz_b (by simpa [World.setCell] using cell_lt h1) (by simp [h2]) (drewN_below _ n)
  · rcases h5 with h5 | ⟨g, off, e, hlt, hne, f, hf⟩
    · exact .inl h5
    · exact .inr ⟨g, off, e, Nat.lt_of_lt_of_le hlt hg.size, hne, f, fun j hj => ⟨cell_gs (hf j hj).1 hg (show g ≠ r by omega), (hf j hj).2⟩⟩

set_option maxHeartbeats 1000000 in
theorem S_pick (w : World) (r : Nat) (n : Int) (N : Nat) (hr : Rdr w r N) (hN : N ≤ 1000000) (hn : n ≤ 1000000) :
    Calls Tryd.prog 27 #[.pointer (some ⟨r, 0, none⟩), .int .i64 n] w (Picked w r n N) := by
  obtain ⟨a, m, cap, k, h0, h1, h2, h3, h4, h5⟩ := hr
  have F := Lib.hid (picked_mk h0 h1 h2 h3 h4 h5)
  by_cases hn1 : n < 1
  · clear h5
    go_enter Tryd.func27, Tryd.ntmps27
    go_wp2
    go_ret
    exact ⟨0, rfl, by omega, .inr rfl, (F.out 0).1, (F.out 0).2⟩
  by_cases hm : m = 0
  · clear h5
    subst hm
    have hn2 : ¬ n ≤ 0 := by omega
    go_enter Tryd.func27, Tryd.ntmps27
    go_wp2
    go_ret
    exact ⟨0, rfl, by omega, .inr rfl, (F.out 0).1, (F.out 0).2⟩
  rcases h5 with h5 | ⟨g, off, rfl, hlt, hne, f, hf⟩
  · exact absurd h5 hm
  have hm1 : ((m : Int) == 0) = false := by simpa using hm
  by_cases hk : k < m
  · obtain ⟨hc, hc2⟩ := hf k hk
    have HC := Lib.hid ((World.cell?_setCell_other w ⟨r, 1, none⟩ ⟨g, off + k, none⟩ (.int .i64 ((k : Int) + 1)) (by intro e; injection e with e; omega)).trans hc)
    clear hf hc
    generalize f k = b at *
    have hc := HC.out
    have hb0 : 0 ≤ (b : Int) := by omega
    go_enter Tryd.func27, Tryd.ntmps27
    go_wp2
    go_ret
    refine ⟨(b : Int) % n, rfl, Int.emod_nonneg _ (by omega), .inl (Int.emod_lt_of_pos _ (by omega)), (F.out 0).1, (F.out 0).2⟩
  · have hp : ∀ j, j < m → (w.setCell ⟨r, 1, none⟩ (.int .i64 ((k : Int) + 1))).cell? ⟨g, off + j, none⟩ = some (.int .u8 (f j)) := fun j hj => (World.cell?_setCell_other w ⟨r, 1, none⟩ ⟨g, off + j, none⟩ _ (by intro e; injection e with e; omega)).trans (hf j hj).1
    have hj1 : k % m < m := Nat.mod_lt _ (by omega)
    have hj2 : (k * 7 + 3) % m < m := Nat.mod_lt _ (by omega)
    have e1 := hp _ hj1
    have e2 := hp _ hj2
    have b2 := (hf _ hj1).2
    have d2 := (hf _ hj2).2
    have hq : k / m ≤ k := Nat.div_le_self _ _
    have t1 : (k : Int).tmod (m : Int) = ((k % m : Nat) : Int) := (Int.ofNat_tmod k m).symm
    have t2 : ((k : Int) * 7 + 3).tmod (m : Int) = (((k * 7 + 3) % m : Nat) : Int) := by rw [show (k : Int) * 7 + 3 = ((k * 7 + 3 : Nat) : Int) by omega]; exact (Int.ofNat_tmod _ m).symm
    have u1 : (k : Int) % (m : Int) = ((k % m : Nat) : Int) := (Int.natCast_emod k m).symm
    have u2 : ((k : Int) * 7 + 3) % (m : Int) = (((k * 7 + 3) % m : Nat) : Int) := by rw [show (k : Int) * 7 + 3 = ((k * 7 + 3 : Nat) : Int) by omega]; exact (Int.natCast_emod _ m).symm
    have q1 : (k : Int).tdiv (m : Int) = ((k / m : Nat) : Int) := (Int.ofNat_tdiv k m).symm
    have q2 : (k : Int) / (m : Int) = ((k / m : Nat) : Int) := rfl
    clear hp hf
    generalize f (k % m) = x1 at *
    generalize f ((k * 7 + 3) % m) = x2 at *
    generalize k % m = i1 at *
    generalize (k * 7 + 3) % m = i2 at *
    generalize k / m = q at *
    obtain ⟨X, hX⟩ : ∃ X : Nat, X = x1 * 131 + x2 * 1117 + k * 29 + q * 53 := ⟨_, rfl⟩
    have hX2 : X ≤ 100000000 := by omega
    have y1 : IntKind.i64.wrap ((k : Int) * 7) = (k : Int) * 7 := IntWalk.i64_in _ (by omega)
    have y2 : IntKind.i64.wrap ((k : Int) * 7 + 3) = (k : Int) * 7 + 3 := IntWalk.i64_in _ (by omega)
    have y3 : IntKind.i64.wrap ((x1 : Int) * 131) = (x1 : Int) * 131 := IntWalk.i64_in _ (by omega)
    have y4 : IntKind.i64.wrap ((x2 : Int) * 1117) = (x2 : Int) * 1117 := IntWalk.i64_in _ (by omega)
    have y5 : IntKind.i64.wrap ((x1 : Int) * 131 + (x2 : Int) * 1117) = (x1 : Int) * 131 + (x2 : Int) * 1117 := IntWalk.i64_in _ (by omega)
    have y6 : IntKind.i64.wrap ((k : Int) * 29) = (k : Int) * 29 := IntWalk.i64_in _ (by omega)
    have y7 : IntKind.i64.wrap ((x1 : Int) * 131 + (x2 : Int) * 1117 + (k : Int) * 29) = (x1 : Int) * 131 + (x2 : Int) * 1117 + (k : Int) * 29 := IntWalk.i64_in _ (by omega)
    have y8 : IntKind.i64.wrap ((q : Int) * 53) = (q : Int) * 53 := IntWalk.i64_in _ (by omega)
    have y9 : IntKind.i64.wrap ((x1 : Int) * 131 + (x2 : Int) * 1117 + (k : Int) * 29 + (q : Int) * 53) = (X : Int) := by rw [IntWalk.i64_in _ (by omega)]; omega
    have ya : (X : Int).tdiv 64 = ((X / 64 : Nat) : Int) := (Int.ofNat_tdiv X 64).symm
    have yb : (X : Int) / 64 = ((X / 64 : Nat) : Int) := rfl
    have hY : X / 64 ≤ 100000000 := by omega
    have yc : bits .xor .i64 (X : Int) ((X / 64 : Nat) : Int) = ((X ^^^ (X / 64) : Nat) : Int) := i64_xor_nat _ _ (by omega) (by omega)
    generalize X / 64 = Y at *
    generalize X ^^^ Y = Z at *
    have z0 : 0 ≤ (Z : Int) := by omega
    have l1 : (i1 : Int) < m := by omega
    have l2 : (i2 : Int) < m := by omega
    have l3 : 0 ≤ (i1 : Int) := by omega
    have l4 : 0 ≤ (i2 : Int) := by omega
    clear hX
    go_enter Tryd.func27, Tryd.ntmps27
    go_wp2
    go_quiet (fail)
    go_wp2
    go_ret
    exact ⟨(Z : Int) % n, rfl, Int.emod_nonneg _ (by omega), .inl (Int.emod_lt_of_pos _ (by omega)), (F.out nq).1, (F.out nq).2⟩

set_option maxHeartbeats 1000000 in
theorem S_l13Open (w : World) (v : Value) (n : Nat) (hv : RdY w v n) (hn : n ≤ 4294967296) :
    Calls Tryd.prog 25 #[v] w fun e w' => ∃ q, q = w.heap.size ∧ e = .returned (.pointer (some ⟨q, 0, none⟩)) ∧ Rdr w' q 0 ∧ Below w.heap.size w w' := by
  obtain ⟨a, cap, rfl, hcap, hnc, hr⟩ := hv
  have fin : ∀ m, m ≤ n → m ≤ 2000 → Rdr (w.alloc (.cells #[.slice a m cap, .int .i64 0] 68)) w.heap.size 0 := by
    intro m hm hm2
    refine ⟨a, m, cap, 0, by simp, by simp, by simp, Nat.le_refl _, hm2, ?_⟩
    rcases hr with hr | ⟨g, off, e, hg, f, hf⟩
    · exact .inl (by omega)
    · exact .inr ⟨g, off, e, by simp; omega, hg, f, fun j hj => ⟨cell_b (hf j (by omega)).1 (below_alloc _ _), (hf j (by omega)).2⟩⟩
  have F := Lib.hid fin
  clear fin hr hnc
  by_cases h2 : 2000 < n
  · go_enter Tryd.func25, Tryd.ntmps25
    go_wp2
    go_ret
    exact ⟨_, rfl, rfl, F.out 2000 (by omega) (by omega), below_alloc _ _⟩
  · go_enter Tryd.func25, Tryd.ntmps25
    go_wp2
    go_ret
    exact ⟨_, rfl, rfl, F.out n (by omega) (by omega), below_alloc _ _⟩

/-- What num hands back: one of the list. -/
def Drawn (w : World) (r : Nat) (xs : List Int) (N : Nat) (e : Ending) (w' : World) : Prop :=
  ∃ x : Int, e = .returned (.int .i64 x) ∧ x ∈ xs ∧ Rdr w' r (N + 1) ∧ w.grownBy w' (some r)
set_option maxHeartbeats 1000000 in
theorem S_num (w : World) (r : Nat) (v : Value) (xs : List Int) (N : Nat) (hr : Rdr w r N) (hN : N ≤ 1000000) (hv : RdB w (r + 1) v xs) (h0 : 0 < xs.length) (h1 : xs.length ≤ 1000) :
    Calls Tryd.prog 38 #[.pointer (some ⟨r, 0, none⟩), v] w (Drawn w r xs N) := by
  have HR := Lib.hid hr
  have HV := Lib.hid hv
  obtain ⟨⟨a, cap, rfl, hcap, hnc, hc⟩, hb⟩ := hv
  have HL := Lib.hid h0
  clear hr hnc hc hb h0
  go_enter Tryd.func38, Tryd.ntmps38
  go_wp2_with fail
  refine (S_pick w r _ N HR.out hN (by omega)).mono ?_
  rintro e w1 ⟨x, rfl, hx0, hx1, hr1, hg⟩
  have hlt : x < xs.length := by have := HL.out; omega
  obtain ⟨k, rfl⟩ : ∃ k : Nat, x = k := ⟨x.toNat, by omega⟩
  have HV1 := rdb_gs HV.out hg (Nat.lt_succ_self r)
  obtain ⟨⟨a', cap', e, _, _, hc⟩, _⟩ := HV1
  simp only [Value.slice.injEq, true_and] at e
  obtain ⟨rfl, rfl⟩ := e
  rcases hc with hc | ⟨g, off, rfl, _, hc⟩
  · exact absurd hc (by omega)
  have hck := hc k (by omega)
  have HG := Lib.hid hg
  have HR1 := Lib.hid hr1
  have hm : xs.getD k 0 ∈ xs := by
    have hk : k < xs.length := by omega
    simp only [List.getD, List.getElem?_eq_getElem hk, Option.getD_some]; exact List.getElem_mem hk
  have HM := Lib.hid hm
  clear hc hg hr1 hm hx1
  go_wp2
  go_ret
  exact ⟨_, rfl, HM.out, HR1.out, HG.out⟩

end Go.Proofs.YtcbdpcalmafdiaaDoor
