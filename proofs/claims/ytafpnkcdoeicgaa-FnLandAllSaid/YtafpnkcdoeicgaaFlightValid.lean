/- Contracts of FlightsValid. -/
import Derived.Test.YtafpnkcdoeicgaaFlightSame
import Derived.Test.YtafpnkcdoeicgaaGuard
import Derived.Deep.RegionHeld3
import Derived.Deep.RegionLaw
import Derived.Deep.DrawnRows
namespace Go.Proofs.Ytafpnkcdoeicgaa
open Go.RowKit
attribute [local go_sem ↓] Go.wp_at_zero Go.wp_at_succ

/-- The threads of flights. -/
def thrs (fs : List Fl) : List Int := fs.flatMap fun f => f.2.1 :: f.2.2
theorem thrs_append (a b : List Fl) : thrs (a ++ b) = thrs a ++ thrs b := by unfold thrs; rw [List.flatMap_append]
theorem thrs_len (fs : List Fl) : (thrs fs).length = fs.length + fsum fs := by
  induction fs with
  | nil => rfl
  | cons f fs ih =>
    have e : thrs (f :: fs) = (f.2.1 :: f.2.2) ++ thrs fs := rfl
    rw [e, List.length_append, ih]; simp [fsum]; omega
theorem thrs_take_succ {ts : List FT} {k : Nat} (h : k < ts.length) : thrs ((ts.map fl).take (k + 1)) = thrs ((ts.map fl).take k) ++ [ts[k].2.1] ++ ts[k].2.2.1 := by
  rw [List.take_succ_eq_append_getElem (by simpa using h), thrs_append]
  simp [thrs]
/-- Keys in bounds and in order. -/
def keysOk (fs : List Fl) : Bool := decide (∀ k, (h : k < fs.length) → 0 ≤ (fs[k]'h).1 ∧ (fs[k]'h).1 ≤ 99 ∧ (0 < k → (fs[k-1]'(by omega)).1 < (fs[k]'h).1))
theorem keysOk_iff {fs : List Fl} : keysOk fs = true ↔ ∀ k, (h : k < fs.length) → 0 ≤ (fs[k]'h).1 ∧ (fs[k]'h).1 ≤ 99 ∧ (0 < k → (fs[k-1]'(by omega)).1 < (fs[k]'h).1) := by unfold keysOk; exact decide_eq_true_iff
theorem keysOk_nil : keysOk [] = true := keysOk_iff.2 (fun k h => by simp at h)
theorem keysOk_bad {fs : List Fl} {k : Nat} (h : k < fs.length) (hb : ¬ (0 ≤ fs[k].1 ∧ fs[k].1 ≤ 99 ∧ (0 < k → (fs[k-1]'(by omega)).1 < fs[k].1))) : keysOk fs = false := by
  rw [Bool.eq_false_iff]; intro hh; exact hb (keysOk_iff.1 hh k h)
theorem keysOk_snoc {fs : List Fl} {k : Nat} (h : k < fs.length) (h1 : keysOk (fs.take k) = true) (hb : 0 ≤ fs[k].1 ∧ fs[k].1 ≤ 99 ∧ (0 < k → (fs[k-1]'(by omega)).1 < fs[k].1)) : keysOk (fs.take (k + 1)) = true := by
  rw [keysOk_iff] at h1 ⊢
  intro j hj
  have hj2 : j < k + 1 := by simp at hj; omega
  by_cases e : j = k
  · subst e; simpa [List.getElem_take] using hb
  · have h3 := h1 j (by simp; omega)
    simpa [List.getElem_take] using h3
theorem keysOk_bad1 {fs : List Fl} {k : Nat} {x : Fl} (h : k < fs.length) (hx : fs[k] = x) (hb : x.1 < 0 ∨ 99 < x.1) : keysOk fs = false :=
  keysOk_bad h (by rw [hx]; omega)
theorem keysOk_bad3 {fs : List Fl} {m : Nat} {x p : Fl} (h : m + 1 < fs.length) (hx : fs[m + 1] = x) (hp : fs[m]'(by omega) = p) (hb : x.1 ≤ p.1) : keysOk fs = false :=
  keysOk_bad h (fun hh => by
    have h5 := hh.2.2 (by omega)
    rw [hx, show fs[m + 1 - 1]'(by omega) = p from hp] at h5
    omega)
theorem keysOk_ok0 {fs : List Fl} {x : Fl} (h : 0 < fs.length) (hx : fs[0] = x) (h0 : 0 ≤ x.1) (h1 : x.1 ≤ 99) : keysOk (fs.take (0 + 1)) = true :=
  keysOk_snoc h (by simpa using keysOk_nil) (by rw [hx]; exact ⟨h0, h1, fun h => absurd h (by omega)⟩)
theorem keysOk_ok3 {fs : List Fl} {m : Nat} {x p : Fl} (h : m + 1 < fs.length) (hk : keysOk (fs.take (m + 1)) = true) (hx : fs[m + 1] = x) (hp : fs[m]'(by omega) = p) (h0 : 0 ≤ x.1) (h1 : x.1 ≤ 99) (hb : p.1 < x.1) : keysOk (fs.take (m + 1 + 1)) = true :=
  keysOk_snoc h hk (by
    rw [hx]
    refine ⟨h0, h1, fun _ => ?_⟩
    rw [show fs[m + 1 - 1]'(by omega) = p from hp]
    exact hb)
/-- Are the flights valid? -/
def fval (fs : List Fl) : Bool := decide (fs.length ≤ 6) && keysOk fs && dist (thrs fs)
theorem fval_long {fs : List Fl} (h : 6 < fs.length) : fval fs = false := by unfold fval; rw [decide_eq_false (by omega)]; rfl
theorem fval_keys {fs : List Fl} (h : keysOk fs = false) : fval fs = false := by unfold fval; rw [h]; simp
theorem fval_dist {fs : List Fl} (h : fs.length ≤ 6) (hk : keysOk fs = true) : fval fs = dist (thrs fs) := by unfold fval; rw [decide_eq_true h, hk]; rfl
theorem nodup_bound : ∀ (n : Nat) (xs : List Int), xs.Nodup → (∀ x ∈ xs, 0 ≤ x ∧ x < n) → xs.length ≤ n
  | 0, xs, _, h => by
    cases xs with
    | nil => simp
    | cons x xs => have := h x (by simp); omega
  | n + 1, xs, hd, h => by
    by_cases hm : (n : Int) ∈ xs
    · have h1 := nodup_bound n (xs.erase n) (hd.erase _) (fun x hx => by
        have hx' := List.mem_of_mem_erase hx
        have hne : x ≠ n := fun e => by subst e; exact hd.not_mem_erase hx
        have := h x hx'; push_cast at this; omega)
      have h2 := List.length_erase_of_mem hm
      have h3 : 0 < xs.length := List.length_pos_of_mem hm
      omega
    · have h1 := nodup_bound n xs hd (fun x hx => by
        have hne : x ≠ n := fun e => by subst e; exact hm hx
        have := h x hx; push_cast at this; omega)
      omega
theorem dist_len {xs : List Int} (h : dist xs = true) : xs.length ≤ 6 := by
  rw [dist_iff] at h
  exact nodup_bound 6 xs h.2 (fun x hx => by have := h.1 x hx; simp [thr] at this; omega)
theorem vt_eq (xs : List Int) : vt xs = dist xs := by
  cases h : dist xs
  · exact vt_bad h
  · rw [vt_dist (dist_len h), h]

/-- At the head of flightThreads' loop. -/
def FThHead (w : World) (ts : List FT) (vi vo : Value) (wr : World) : Prop :=
  ∃ (k : Nat) (a : Option Addr) (cap : Nat) (L : List Int), k ≤ ts.length ∧ vi = .int .i64 (k : Int) ∧ vo = .slice a L.length cap ∧ L = thrs ((ts.map fl).take k) ∧ Ow wr w.heap.size (.slice a L.length cap) L ∧ Below w.heap.size w wr
theorem thrs_take_le (ts : List FT) (k : Nat) : (thrs ((ts.map fl).take k)).length ≤ ts.length + tsum ts := by
  rw [thrs_len]
  have h1 := fsum_take_le (ts.map fl) k
  have h2 : ((ts.map fl).take k).length ≤ ts.length := by simp; omega
  show _ ≤ ts.length + fsum (ts.map fl)
  omega
set_option maxHeartbeats 4000000 in
set_option maxRecDepth 100000 in
theorem I_flightThreads (w : World) (B C : Nat) (v : Value) (ts : List FT) (hr : RdF w B C v ts) (hl : ts.length + tsum ts ≤ 4294967296) :
    Calls Try.prog 42 #[v] w fun e w' => ∃ a cap L, e = .returned (.slice a L.length cap) ∧ L = thrs (ts.map fl) ∧ Ow w' w.heap.size (.slice a L.length cap) L ∧ Below w.heap.size w w' := by
  obtain ⟨i0, hi, hz0, hz1, hz2⟩ := info_parts info3
  have HR := Lib.hid hr
  obtain ⟨a, cap, rfl, hcap, hnc, hc0⟩ := rdf_cells hr
  clear hc0 hnc hr
  go_enter Try.func42, Try.ntmps42
  go_wp2
  go_loopw [3, 8] (fun vo i wr => FThHead w ts i vo wr) (fun _ i _ => ts.length - (intOf i).toNat)
  case atStart => exact ⟨0, none, 0, [], Nat.zero_le _, rfl, rfl, by simp [thrs], ow_nil _ _, Below.refl _ _⟩
  case round =>
    obtain ⟨k, a1, cap1, L, hk, rfl, rfl, hL, hown, hbel⟩ := hrel
    have HL := Lib.hid hL
    have hLl : L.length ≤ ts.length + tsum ts := by rw [hL]; exact thrs_take_le ts k
    have hz10 := hbel.size
    obtain ⟨w10, rfl⟩ : ∃ wo : World, wo = wr := ⟨_, rfl⟩
    by_cases hlt : k < ts.length
    · have hsu := thrs_take_succ hlt
      rw [← hL] at hsu
      have HSU := Lib.hid hsu
      have hL1 : (L ++ [ts[k].2.1] ++ ts[k].2.2.1).length ≤ ts.length + tsum ts := by rw [← hsu]; exact thrs_take_le ts (k + 1)
      clear hL hsu
      obtain ⟨a', c', e, _, _, hc⟩ := rdf_cells (rdf_b HR.out hbel)
      simp only [Value.slice.injEq, true_and] at e
      obtain ⟨rfl, rfl⟩ := e
      rcases hc with hc | ⟨g9, off, rfl, hg, _, hg8, hc⟩
      · omega
      obtain ⟨e1, e2, e3⟩ := hc k hlt
      have r0 := rdf_in HR.out hlt
      have r1 := rdi_mono (rdi_b r0 (hbel)) (Nat.zero_le _) HR.out.2.2.2
      have hlx := tsum_get_le hlt
      obtain ⟨X, hX⟩ : ∃ X : FT, ts[k] = X := ⟨_, rfl⟩
      rw [hX] at e1 e2 e3 r1 hlx hL1
      obtain ⟨xa, xc, hx3⟩ := rd_sl r1.1
      rw [hx3] at e3 r1
      obtain ⟨xk, xo, xs, xv⟩ := X
      simp only at e1 e2 e3 r1 hlx hL1 hx3
      have HX := Lib.hid hX
      clear hc r0 hx3 hX
      simp only [List.length_append, List.length_singleton] at hL1
      have o_s_10 := Lib.hid hown
      have lo_s := Lib.hid (own_lo hown)
      have hi_s := Lib.hid (own_hi hown)
      have r_z_10 := Lib.hid r1
      have T_10 := Lib.hid hbel
      clear hown r1 hbel
      go_wp2_with fail
      have c_X0_11 : ((w10).alloc (.cells #[.int .i64 xk, .int .i64 xo, .slice xa xs.length xc] 47)).cell? ⟨w10.heap.size, 0, none⟩ = some (.int .i64 xk) := by simp
      have c_X1_11 : ((w10).alloc (.cells #[.int .i64 xk, .int .i64 xo, .slice xa xs.length xc] 47)).cell? ⟨w10.heap.size, 1, none⟩ = some (.int .i64 xo) := by simp
      have c_X2_11 : ((w10).alloc (.cells #[.int .i64 xk, .int .i64 xo, .slice xa xs.length xc] 47)).cell? ⟨w10.heap.size, 2, none⟩ = some (.slice xa xs.length xc) := by simp
      have o_s_11 : Hid (((w10).alloc (.cells #[.int .i64 xk, .int .i64 xo, .slice xa xs.length xc] 47)).ownsRow (w.heap.size) 3 1 (.slice a1 L.length cap1) (L.length) (ints (L))) := Lib.hid ((own_below (o_s_10.out) (below_alloc _ _)))
      have r_z_11 : Hid (RdI ((w10).alloc (.cells #[.int .i64 xk, .int .i64 xo, .slice xa xs.length xc] 47)) (0) (w.heap.size) (.slice xa xs.length xc) (xs)) := Lib.hid ((rdi_b (r_z_10.out) (below_alloc _ _)))
      have T_11 : Hid (Below w.heap.size w ((w10).alloc (.cells #[.int .i64 xk, .int .i64 xo, .slice xa xs.length xc] 47))) := Lib.hid (below_trans (T_10.out) (below_alloc _ _))
      have z_11 : w10.heap.size + 1 ≤ ((w10).alloc (.cells #[.int .i64 xk, .int .i64 xo, .slice xa xs.length xc] 47)).heap.size := (by simp)
      clear o_s_10 r_z_10 T_10
      generalize (w10).alloc (.cells #[.int .i64 xk, .int .i64 xo, .slice xa xs.length xc] 47) = w11 at *
      have ac_X0_11 := fun o => cell_b (c_X0_11) (below_alloc _ o)
      have bc_X0_11 := fun o o1 => cell_b (ac_X0_11 o) (below_alloc _ o1)
      have ac_X1_11 := fun o => cell_b (c_X1_11) (below_alloc _ o)
      have bc_X1_11 := fun o o1 => cell_b (ac_X1_11 o) (below_alloc _ o1)
      have ac_X2_11 := fun o => cell_b (c_X2_11) (below_alloc _ o)
      have bc_X2_11 := fun o o1 => cell_b (ac_X2_11 o) (below_alloc _ o1)
      go_region_held3 (fun w' => w'.cell? ⟨w10.heap.size, 1, none⟩ = some (.int .i64 xo) ∧ w'.cell? ⟨w10.heap.size, 2, none⟩ = some (.slice xa xs.length xc)) ((refine ⟨?_, ?_⟩ <;> (repeat (first | with_reducible assumption | with_reducible refine cell_b ?_ (below_alloc _ _) | with_reducible refine cell_b ?_ (drew_below _)))))
        (first | (refine step_append_rd rfl _ _ 34 rfl (w.heap.size) i0 Try.underlying34 hi hz0 hz1 hz2 (.slice a2 (L.length + 1) cap2) ((L.length + 1)) (L ++ [xo]) rfl (o_t_12.out) _ _ _ (xs) rfl (rdi_rd (r_z_12.out)) rfl (by unfold maxLen; omega) (by omega) (by first | omega | (simp; done) | (simp; omega)) ?_; intro v13 w13 hown hgr hloc; have ho : w13.ownsRow (w.heap.size) 3 1 v13 ((L.length + 1) + xs.length) (ints (L ++ [xo] ++ xs)) := (by exact hown); obtain ⟨a3, cap3, hv⟩ := own_shape ho; subst hv; have iv_u : Hid (∀ g, (Value.slice a3 ((L.length + 1) + xs.length) cap3).ownBlock = some g → (w.heap.size ≤ g ∧ g < w10.heap.size) ∨ (w11.heap.size + 1 ≤ g ∧ g < w12.heap.size) ∨ (w12.heap.size ≤ g ∧ g < w13.heap.size)) := Lib.hid (fun g h => by have h9 := hgr.size; have h7 := own_hi ho g h; rcases hloc with h8 | h8 <;> rw [h8] at h <;> first | (have h1 := lo_t.out g h; have h2 := hi_t.out g h; have h5 := iv_t.out g h; (try simp at h9); omega) | (injection h with h; (try simp at h9); (try simp at h); omega)); have c_X0_13 := cell_gr (c_X0_12) hgr (fun g h => by have h1 := lo_t.out g h; have h2 := hi_t.out g h; have h5 := iv_t.out g h; show w10.heap.size ≠ g; omega); have c_X1_13 := cell_gr (c_X1_12) hgr (fun g h => by have h1 := lo_t.out g h; have h2 := hi_t.out g h; have h5 := iv_t.out g h; show w10.heap.size ≠ g; omega); have c_X2_13 := cell_gr (c_X2_12) hgr (fun g h => by have h1 := lo_t.out g h; have h2 := hi_t.out g h; have h5 := iv_t.out g h; show w10.heap.size ≠ g; omega); have r_z_13 := Lib.hid (rdi_row (r_z_12.out) hgr (fun g h => by have h1 := lo_t.out g h; have h2 := hi_t.out g h; have h5 := iv_t.out g h; omega)); have T_13 := Lib.hid (below_gr (T_12.out) (by first | omega | (simp; done) | (simp; omega)) hgr (fun g h => by have h1 := lo_t.out g h; have h2 := hi_t.out g h; have h5 := iv_t.out g h; omega)); have z_13 : w12.heap.size ≤ w13.heap.size := (by have := hgr.size; (try simp at this); omega); have o_u_13 := Lib.hid ho; have lo_u := Lib.hid (own_lo o_u_13.out); have hi_u := Lib.hid (own_hi o_u_13.out); have ac_X0_13 := fun o => cell_b (c_X0_13) (below_alloc _ o); have bc_X0_13 := fun o o1 => cell_b (ac_X0_13 o) (below_alloc _ o1); have ac_X1_13 := fun o => cell_b (c_X1_13) (below_alloc _ o); have bc_X1_13 := fun o o1 => cell_b (ac_X1_13 o) (below_alloc _ o1); have ac_X2_13 := fun o => cell_b (c_X2_13) (below_alloc _ o); have bc_X2_13 := fun o o1 => cell_b (ac_X2_13 o) (below_alloc _ o1); clear hgr c_X0_12 c_X1_12 c_X2_12 r_z_12 T_12 ac_X0_12 bc_X0_12 ac_X1_12 bc_X1_12 ac_X2_12 bc_X2_12 hown ho hloc o_t_12 lo_t hi_t) | (refine step_append_rd rfl _ _ 34 rfl (w.heap.size) i0 Try.underlying34 hi hz0 hz1 hz2 (.slice a1 L.length cap1) (L.length) (L) rfl (own_below (own_below (o_s_11.out) (drew_below _)) (below_alloc _ _)) _ _ _ [xo] rfl (rdb_rd (rdb_lit _ #[.int .i64 xo] [xo] rfl 0 (w11.heap.size) 1 (by simp) rfl (by omega))) rfl (by unfold maxLen; simp; omega) (by simp; omega) (by first | omega | (simp; done) | (simp; omega)) ?_; intro v12 w12 hown hgr hloc; have ho : w12.ownsRow (w.heap.size) 3 1 v12 (L.length + 1) (ints (L ++ [xo])) := (by exact hown); obtain ⟨a2, cap2, hv⟩ := own_shape ho; subst hv; have iv_t : Hid (∀ g, (Value.slice a2 (L.length + 1) cap2).ownBlock = some g → (w.heap.size ≤ g ∧ g < w10.heap.size) ∨ (w11.heap.size + 1 ≤ g ∧ g < w12.heap.size)) := Lib.hid (fun g h => by have h9 := hgr.size; have h7 := own_hi ho g h; rcases hloc with h8 | h8 <;> rw [h8] at h <;> first | (have h1 := lo_s.out g h; have h2 := hi_s.out g h; (try simp at h9); omega) | (injection h with h; (try simp at h9); (try simp at h); omega)); have c_X0_12 := cell_gr (cell_b (cell_b (c_X0_11) (drew_below _)) (below_alloc _ _)) hgr (fun g h => by have h1 := lo_s.out g h; have h2 := hi_s.out g h; show w10.heap.size ≠ g; omega); have c_X1_12 := cell_gr (cell_b (cell_b (c_X1_11) (drew_below _)) (below_alloc _ _)) hgr (fun g h => by have h1 := lo_s.out g h; have h2 := hi_s.out g h; show w10.heap.size ≠ g; omega); have c_X2_12 := cell_gr (cell_b (cell_b (c_X2_11) (drew_below _)) (below_alloc _ _)) hgr (fun g h => by have h1 := lo_s.out g h; have h2 := hi_s.out g h; show w10.heap.size ≠ g; omega); have r_z_12 := Lib.hid (rdi_row (rdi_b (rdi_b (r_z_11.out) (drew_below _)) (below_alloc _ _)) hgr (fun g h => by have h1 := lo_s.out g h; have h2 := hi_s.out g h; omega)); have T_12 := Lib.hid (below_gr (below_trans (below_trans (T_11.out) (drew_below _)) (below_alloc _ _)) (by first | omega | (simp; done) | (simp; omega)) hgr (fun g h => by have h1 := lo_s.out g h; have h2 := hi_s.out g h; omega)); have z_12 : w11.heap.size + 1 ≤ w12.heap.size := (by have := hgr.size; (try simp at this); omega); have o_t_12 := Lib.hid ho; have lo_t := Lib.hid (own_lo o_t_12.out); have hi_t := Lib.hid (own_hi o_t_12.out); have ac_X0_12 := fun o => cell_b (c_X0_12) (below_alloc _ o); have bc_X0_12 := fun o o1 => cell_b (ac_X0_12 o) (below_alloc _ o1); have ac_X1_12 := fun o => cell_b (c_X1_12) (below_alloc _ o); have bc_X1_12 := fun o o1 => cell_b (ac_X1_12 o) (below_alloc _ o1); have ac_X2_12 := fun o => cell_b (c_X2_12) (below_alloc _ o); have bc_X2_12 := fun o o1 => cell_b (ac_X2_12 o) (below_alloc _ o1); clear hgr c_X0_11 c_X1_11 c_X2_11 r_z_11 T_11 ac_X0_11 bc_X0_11 ac_X1_11 bc_X1_11 ac_X2_11 bc_X2_11 hown ho hloc o_s_11 lo_s hi_s) | fail)
      have e8 : (L ++ [xo] ++ xs).length = L.length + 1 + xs.length := by simp; omega
      have HE8 := Lib.hid e8
      clear e8
      go_wp2_with fail
      go_roundw
      case rel => exact ⟨k + 1, a3, cap3, L ++ [xo] ++ xs, by omega, by go_num, by rw [HE8.out], (by have e9 := HSU.out; rw [HX.out] at e9; exact e9.symm), (by rw [HE8.out]; exact ow_eq (o_u_13.out) rfl HE8.out.symm), (T_13.out)⟩
      case measure => simp [intOf]; omega
    · obtain rfl : k = ts.length := by omega
      have HO := Lib.hid hown
      have HB := Lib.hid hbel
      clear hL hown hbel
      go_wp2
      go_ret
      exact ⟨_, _, L, rfl, by rw [HL.out, List.take_of_length_le (by simp)], HO.out, HB.out⟩

set_option maxHeartbeats 4000000 in
set_option maxRecDepth 100000 in
theorem I_FlightsValid (w : World) (B C : Nat) (v : Value) (ts : List FT) (hr : RdF w B C v ts) (hl : ts.length + tsum ts ≤ 4294967296) :
    Calls Try.prog 18 #[v] w fun e w' => e = .returned (.bool (fval (ts.map fl))) ∧ Below w.heap.size w w' := by
  have HR := Lib.hid hr
  obtain ⟨a, cap, rfl, hcap, hnc, hc0⟩ := rdf_cells hr
  clear hc0 hnc hr
  by_cases hlong : 6 < ts.length
  · go_enter Try.func18, Try.ntmps18
    go_wp2
    go_ret
    exact ⟨by rw [fval_long (by simpa using hlong)]; rfl, Below.refl _ _⟩
  go_enter Try.func18, Try.ntmps18
  go_wp2
  go_loopw [10] (fun i wr => ∃ k : Nat, k ≤ ts.length ∧ i = .int .i64 (k : Int) ∧ keysOk ((ts.map fl).take k) = true ∧ Below w.heap.size w wr) (fun i _ => ts.length - (intOf i).toNat)
  case atStart => exact ⟨0, Nat.zero_le _, rfl, by simpa using keysOk_nil, Below.refl _ _⟩
  case round =>
    obtain ⟨k, hk, rfl, hko, hbel⟩ := hrel
    have HK := Lib.hid hko
    have HB := Lib.hid hbel
    clear hko
    by_cases hlt : k < ts.length
    · obtain ⟨a', c', e, _, _, hc⟩ := rdf_cells (rdf_b HR.out hbel)
      simp only [Value.slice.injEq, true_and] at e
      obtain ⟨rfl, rfl⟩ := e
      rcases hc with hc | ⟨g9, off, rfl, hg, _, hg8, hc⟩
      · omega
      obtain ⟨e1, e2, e3⟩ := hc k hlt
      have HC9 := Lib.hid hc
      obtain ⟨xa, xc, hx3⟩ := rd_sl (rdf_rd HR.out hlt)
      rw [hx3] at e3
      obtain ⟨X, hX⟩ : ∃ X : FT, ts[k] = X := ⟨_, rfl⟩
      rw [hX] at e1 e2 e3
      have hgx : ∀ hh : k < (ts.map fl).length, (ts.map fl)[k]'hh = fl X := fun hh => by simp [hX]
      have HGX := Lib.hid hgx
      have hlm : k < (ts.map fl).length := by simpa using hlt
      have HLM := Lib.hid hlm
      clear hc hx3 hbel hgx hlm
      have E1 := Lib.hid e1
      by_cases h1 : X.1 < 0
      · have n1 : decide (X.1 < 0) = true := decide_eq_true h1
        have HBAD := Lib.hid (keysOk_bad1 HLM.out (HGX.out _) (.inl h1))
        clear h1
        go_wp2
        go_quiet (fail)
        go_wp2
        go_ret
        exact ⟨by rw [fval_keys HBAD.out]; rfl, below_trans HB.out (below_trans (below_alloc _ _) (drewN_below _ _))⟩
      by_cases h2 : 99 < X.1
      · have n1 : decide (X.1 < 0) = false := decide_eq_false h1
        have n2 : decide (99 < X.1) = true := decide_eq_true h2
        have HBAD := Lib.hid (keysOk_bad1 HLM.out (HGX.out _) (.inr h2))
        clear h1 h2
        go_wp2
        go_quiet (fail)
        go_wp2
        go_ret
        exact ⟨by rw [fval_keys HBAD.out]; rfl, below_trans HB.out (below_trans (below_alloc _ _) (drewN_below _ _))⟩
      have n1 : decide (X.1 < 0) = false := decide_eq_false h1
      have n2 : decide (99 < X.1) = false := decide_eq_false h2
      by_cases h3 : k = 0
      · subst h3
        have HOK := Lib.hid (keysOk_ok0 HLM.out (HGX.out _) (by show 0 ≤ X.1; omega) (by show X.1 ≤ 99; omega))
        simp only [Nat.zero_mul, Nat.add_zero] at e1 e2 e3
        clear h1 h2
        go_wp2
        go_quiet (fail)
        go_wp2
        go_roundw
        case rel => exact ⟨1, by omega, by go_num, HOK.out, below_trans HB.out (below_trans (below_alloc _ _) (drewN_below _ _))⟩
        case measure => simp [intOf]; omega
      obtain ⟨m, rfl⟩ : ∃ m, k = m + 1 := ⟨k - 1, by omega⟩
      have p1 := (HC9.out m (by omega)).1
      have hgp : ∀ hh : m < (ts.map fl).length, (ts.map fl)[m]'hh = fl (ts[m]'(by simpa using hh)) := fun hh => by simp
      obtain ⟨P, hP⟩ : ∃ P : FT, ts[m]'(by omega) = P := ⟨_, rfl⟩
      rw [hP] at p1
      have hgp : ∀ hh : m < (ts.map fl).length, (ts.map fl)[m]'hh = fl P := fun hh => by simp [hP]
      have HGP := Lib.hid hgp
      have P1 := Lib.hid p1
      have n3 : decide ((0 : Int) < (m : Int) + 1) = true := decide_eq_true (by omega)
      have i1 : (0 : Int) ≤ (m : Int) := by omega
      have i2 : (m : Int) < (ts.length : Int) := by omega
      clear h3 hP hgp
      have p1a := fun o => cell_b p1 (below_alloc _ o)
      by_cases h4 : X.1 ≤ P.1
      · have n4 : decide (X.1 ≤ P.1) = true := decide_eq_true h4
        have HBAD := Lib.hid (keysOk_bad3 HLM.out (HGX.out _) (HGP.out _) h4)
        clear h1 h2 h4
        go_wp2
        go_quiet (fail)
        go_wp2
        go_ret
        exact ⟨by rw [fval_keys HBAD.out]; rfl, below_trans HB.out (below_trans (below_alloc _ _) (drewN_below _ _))⟩
      · have n4 : decide (X.1 ≤ P.1) = false := decide_eq_false h4
        have HOK := Lib.hid (keysOk_ok3 HLM.out HK.out (HGX.out _) (HGP.out _) (by show 0 ≤ X.1; omega) (by show X.1 ≤ 99; omega) (by show P.1 < X.1; omega))
        clear h1 h2 h4
        go_wp2
        go_quiet (fail)
        go_wp2
        go_roundw
        case rel => exact ⟨m + 1 + 1, by omega, by go_num, HOK.out, below_trans HB.out (below_trans (below_alloc _ _) (drewN_below _ _))⟩
        case measure => simp [intOf]; omega
    · obtain rfl : k = ts.length := by omega
      clear hbel
      go_wp2_with fail
      refine (I_flightThreads _ B C _ ts (rdf_b HR.out HB.out) hl).mono ?_
      rintro e w2 ⟨a2, c2, L, rfl, hL, ho, hb⟩
      have HL := Lib.hid hL
      have hLl : L.length ≤ 4294967296 := by rw [hL, thrs_len]; simpa using hl
      have HO := Lib.hid ho
      have HB2 := Lib.hid (below_trans HB.out hb)
      clear hL ho hb
      go_wp2_with fail
      refine (I_distinctThreads _ _ L (own_rd HO.out) hLl).mono ?_
      rintro e w3 ⟨rfl, hb⟩
      have HB3 := Lib.hid (below_trans HB2.out hb)
      clear hb
      go_wp2_with fail
      go_ret
      exact ⟨by rw [fval_dist (by simp; omega) (by have := HK.out; rwa [List.take_of_length_le (by simp)] at this), ← HL.out]; rfl, HB3.out⟩

/-- At the head of FlightsValid's loop. -/
def SVHead (w : World) (ts : List FT) (vi vo : Value) (wr : World) : Prop :=
  ∃ (k : Nat) (a : Option Addr) (cap : Nat) (L : List Int), k ≤ ts.length ∧ k ≤ 7 ∧ vi = .int .i64 (k : Int) ∧ vo = .slice a L.length cap ∧ L = thrs ((ts.map fl).take k) ∧ keysOk ((ts.map fl).take k) = true ∧ L.length ≤ 7 * k ∧ Ow wr w.heap.size (.slice a L.length cap) L ∧ Below w.heap.size w wr ∧ w.heap.size + 1 ≤ wr.heap.size
theorem dist_sub {xs ys zs : List Int} (h : 6 < ys.length) : dist (xs ++ ys ++ zs) = false := by
  rw [Bool.eq_false_iff]; intro hh
  have := dist_len hh
  simp at this; omega
theorem fval_waits {fs : List Fl} {k : Nat} (h : k < fs.length) (hw : 6 < fs[k].2.2.length) : fval fs = false := by
  have e : thrs fs = (thrs (fs.take k) ++ [fs[k].2.1]) ++ fs[k].2.2 ++ thrs (fs.drop (k + 1)) := by
    have h1 : fs = fs.take k ++ fs[k] :: fs.drop (k + 1) := by rw [← List.drop_eq_getElem_cons h, List.take_append_drop]
    have h2 : thrs (fs.take k ++ fs[k] :: fs.drop (k + 1)) = thrs (fs.take k) ++ ((fs[k].2.1 :: fs[k].2.2) ++ thrs (fs.drop (k + 1))) := by
      rw [thrs_append]; rfl
    rw [← h1] at h2; rw [h2]; simp
  unfold fval; rw [e, dist_sub hw]; simp
set_option maxHeartbeats 4000000 in
set_option maxRecDepth 100000 in
theorem S_FlightsValid (w : World) (B C : Nat) (v : Value) (ts : List FT) (hr : RdF w B C v ts) (_hl : ts.length + tsum ts ≤ 4294967296) :
    Calls Try.prog 17 #[v] w fun e w' => e = .returned (.bool (fval (ts.map fl))) ∧ Below w.heap.size w w' := by
  obtain ⟨i0, hi, hz0, hz1, hz2⟩ := info_parts info3
  have HR := Lib.hid hr
  obtain ⟨a, cap, rfl, hcap, hnc, hc0⟩ := rdf_cells hr
  clear hc0 hnc hr
  go_enter Try.func17, Try.ntmps17
  go_wp2
  go_loopw [3, 4] (fun vo i wr => SVHead w ts i vo wr) (fun _ i _ => ts.length - (intOf i).toNat)
  case atStart => exact ⟨0, _, 0, [], Nat.zero_le _, Nat.zero_le _, rfl, rfl, by simp [thrs], by simpa using keysOk_nil, by simp, ow_made _ _ (Nat.le_refl _), below_alloc _ _, by simp⟩
  case round =>
    obtain ⟨k, a1, cap1, L, hk, hk7, rfl, rfl, hL, hko, hL7, hown, hbel, hsz⟩ := hrel
    have HL := Lib.hid hL
    have HK := Lib.hid hko
    have HB := Lib.hid hbel
    have hz10 := hbel.size
    obtain ⟨w10, rfl⟩ : ∃ wo : World, wo = wr := ⟨_, rfl⟩
    have o_s_10 := Lib.hid hown
    have lo_s := Lib.hid (own_lo hown)
    have hi_s := Lib.hid (own_hi hown)
    have T_10 := Lib.hid hbel
    clear hko hown
    by_cases hlt : k < ts.length
    · by_cases hk6 : k ≤ 6
      · have hsu := thrs_take_succ hlt
        rw [← hL] at hsu
        have HSU := Lib.hid hsu
        obtain ⟨a', c', e, _, _, hc⟩ := rdf_cells (rdf_b HR.out hbel)
        simp only [Value.slice.injEq, true_and] at e
        obtain ⟨rfl, rfl⟩ := e
        rcases hc with hc | ⟨g9, off, rfl, hg, _, hg8, hc⟩
        · omega
        obtain ⟨e1, e2, e3⟩ := hc k hlt
        have HC9 := Lib.hid hc
        have r0 := rdf_in HR.out hlt
        have r1 := rdi_mono (rdi_b r0 hbel) (Nat.zero_le _) HR.out.2.2.2
        obtain ⟨xa, xc, hx3⟩ := rd_sl r1.1
        rw [hx3] at e3 r1
        obtain ⟨X, hX⟩ : ∃ X : FT, ts[k] = X := ⟨_, rfl⟩
        have hwl : 6 < X.2.2.1.length → fval (ts.map fl) = false := fun h => fval_waits (k := k) (by simpa using hlt) (by simpa [hX] using h)
        rw [hX] at e1 e2 e3 r1
        have hgx : ∀ hh : k < (ts.map fl).length, (ts.map fl)[k]'hh = fl X := fun hh => by simp [hX]
        have HGX := Lib.hid hgx
        have HWL := Lib.hid hwl
        have hlm : k < (ts.map fl).length := by simpa using hlt
        have HLM := Lib.hid hlm
        have HX := Lib.hid hX
        have r_z_10 := Lib.hid r1
        obtain ⟨xk, xo, xs, xv⟩ := X
        simp only at e1 e2 e3 HWL r_z_10
        clear hc hx3 hbel hgx hlm hX r0 r1 hsu hL hwl
        by_cases h1 : xk < 0
        · have n1 : decide (xk < 0) = true := decide_eq_true h1
          have HBAD := Lib.hid (fval_keys (keysOk_bad1 HLM.out (HGX.out _) (.inl h1)))
          clear h1
          go_wp2
          go_quiet (fail)
          go_wp2
          go_ret
          exact ⟨by rw [HBAD.out]; rfl, below_trans HB.out (below_trans (below_alloc _ _) (drewN_below _ _))⟩
        by_cases h2 : 99 < xk
        · have n1 : decide (xk < 0) = false := decide_eq_false h1
          have n2 : decide (99 < xk) = true := decide_eq_true h2
          have HBAD := Lib.hid (fval_keys (keysOk_bad1 HLM.out (HGX.out _) (.inr h2)))
          clear h1 h2
          go_wp2
          go_quiet (fail)
          go_wp2
          go_ret
          exact ⟨by rw [HBAD.out]; rfl, below_trans HB.out (below_trans (below_alloc _ _) (drewN_below _ _))⟩
        have n1 : decide (xk < 0) = false := decide_eq_false h1
        have n2 : decide (99 < xk) = false := decide_eq_false h2
        by_cases h3 : k = 0
        · subst h3
          simp only [Nat.zero_mul, Nat.add_zero] at e1 e2 e3
          have HOK := Lib.hid (keysOk_ok0 HLM.out (HGX.out _) (by show 0 ≤ xk; omega) (by show xk ≤ 99; omega))
          by_cases h5 : 6 < xs.length
          · have n5 : decide ((6 : Int) < (xs.length : Int)) = true := decide_eq_true (by omega)
            have HBAD := Lib.hid (HWL.out h5)
            clear h1 h2
            go_wp2
            go_quiet (fail)
            go_wp2
            go_ret
            exact ⟨by rw [HBAD.out]; rfl, below_trans HB.out (below_trans (below_alloc _ _) (drewN_below _ _))⟩
          have n5 : decide ((6 : Int) < (xs.length : Int)) = false := decide_eq_false (by omega)
          clear h1 h2
          go_wp2
          go_quiet (fail)
          go_wp2_with fail
          have c_X0_11 : (((w10).alloc (.cells #[.int .i64 xk, .int .i64 xo, .slice xa xs.length xc] 47)).drewN nq).cell? ⟨w10.heap.size, 0, none⟩ = some (.int .i64 xk) := by simp
          have c_X1_11 : (((w10).alloc (.cells #[.int .i64 xk, .int .i64 xo, .slice xa xs.length xc] 47)).drewN nq).cell? ⟨w10.heap.size, 1, none⟩ = some (.int .i64 xo) := by simp
          have c_X2_11 : (((w10).alloc (.cells #[.int .i64 xk, .int .i64 xo, .slice xa xs.length xc] 47)).drewN nq).cell? ⟨w10.heap.size, 2, none⟩ = some (.slice xa xs.length xc) := by simp
          have o_s_11 : Hid ((((w10).alloc (.cells #[.int .i64 xk, .int .i64 xo, .slice xa xs.length xc] 47)).drewN nq).ownsRow (w.heap.size) 3 1 (.slice a1 L.length cap1) (L.length) (ints (L))) := Lib.hid ((own_below (own_below (o_s_10.out) (below_alloc _ _)) (drewN_below _ _)))
          have r_z_11 : Hid (RdI (((w10).alloc (.cells #[.int .i64 xk, .int .i64 xo, .slice xa xs.length xc] 47)).drewN nq) (0) (w.heap.size) (.slice xa xs.length xc) (xs)) := Lib.hid ((rdi_b (rdi_b (r_z_10.out) (below_alloc _ _)) (drewN_below _ _)))
          have T_11 : Hid (Below w.heap.size w (((w10).alloc (.cells #[.int .i64 xk, .int .i64 xo, .slice xa xs.length xc] 47)).drewN nq)) := Lib.hid (below_trans (below_trans (T_10.out) (below_alloc _ _)) (drewN_below _ _))
          have z_11 : w10.heap.size + 1 ≤ (((w10).alloc (.cells #[.int .i64 xk, .int .i64 xo, .slice xa xs.length xc] 47)).drewN nq).heap.size := (by simp)
          clear o_s_10 r_z_10 T_10
          generalize ((w10).alloc (.cells #[.int .i64 xk, .int .i64 xo, .slice xa xs.length xc] 47)).drewN nq = w11 at *
          have ac_X0_11 := fun o => cell_b (c_X0_11) (below_alloc _ o)
          have bc_X0_11 := fun o o1 => cell_b (ac_X0_11 o) (below_alloc _ o1)
          have ac_X1_11 := fun o => cell_b (c_X1_11) (below_alloc _ o)
          have bc_X1_11 := fun o o1 => cell_b (ac_X1_11 o) (below_alloc _ o1)
          have ac_X2_11 := fun o => cell_b (c_X2_11) (below_alloc _ o)
          have bc_X2_11 := fun o o1 => cell_b (ac_X2_11 o) (below_alloc _ o1)
          go_region_held3 (fun w' => w'.cell? ⟨w10.heap.size, 1, none⟩ = some (.int .i64 xo) ∧ w'.cell? ⟨w10.heap.size, 2, none⟩ = some (.slice xa xs.length xc)) ((refine ⟨?_, ?_⟩ <;> (repeat (first | with_reducible assumption | with_reducible refine cell_b ?_ (below_alloc _ _) | with_reducible refine cell_b ?_ (drew_below _)))))
            (first | (refine step_append_rd rfl _ _ 34 rfl (w.heap.size) i0 Try.underlying34 hi hz0 hz1 hz2 (.slice a2 (L.length + 1) cap2) ((L.length + 1)) (L ++ [xo]) rfl (o_t_12.out) _ _ _ (xs) rfl (rdi_rd (r_z_12.out)) rfl (by unfold maxLen; omega) (by omega) (by first | omega | (simp; done) | (simp; omega)) ?_; intro v13 w13 hown hgr hloc; have ho : w13.ownsRow (w.heap.size) 3 1 v13 ((L.length + 1) + xs.length) (ints (L ++ [xo] ++ xs)) := (by exact hown); obtain ⟨a3, cap3, hv⟩ := own_shape ho; subst hv; have iv_u : Hid (∀ g, (Value.slice a3 ((L.length + 1) + xs.length) cap3).ownBlock = some g → (w.heap.size ≤ g ∧ g < w10.heap.size) ∨ (w11.heap.size + 1 ≤ g ∧ g < w12.heap.size) ∨ (w12.heap.size ≤ g ∧ g < w13.heap.size)) := Lib.hid (fun g h => by have h9 := hgr.size; have h7 := own_hi ho g h; rcases hloc with h8 | h8 <;> rw [h8] at h <;> first | (have h1 := lo_t.out g h; have h2 := hi_t.out g h; have h5 := iv_t.out g h; (try simp at h9); omega) | (injection h with h; (try simp at h9); (try simp at h); omega)); have c_X0_13 := cell_gr (c_X0_12) hgr (fun g h => by have h1 := lo_t.out g h; have h2 := hi_t.out g h; have h5 := iv_t.out g h; show w10.heap.size ≠ g; omega); have c_X1_13 := cell_gr (c_X1_12) hgr (fun g h => by have h1 := lo_t.out g h; have h2 := hi_t.out g h; have h5 := iv_t.out g h; show w10.heap.size ≠ g; omega); have c_X2_13 := cell_gr (c_X2_12) hgr (fun g h => by have h1 := lo_t.out g h; have h2 := hi_t.out g h; have h5 := iv_t.out g h; show w10.heap.size ≠ g; omega); have r_z_13 := Lib.hid (rdi_row (r_z_12.out) hgr (fun g h => by have h1 := lo_t.out g h; have h2 := hi_t.out g h; have h5 := iv_t.out g h; omega)); have T_13 := Lib.hid (below_gr (T_12.out) (by first | omega | (simp; done) | (simp; omega)) hgr (fun g h => by have h1 := lo_t.out g h; have h2 := hi_t.out g h; have h5 := iv_t.out g h; omega)); have z_13 : w12.heap.size ≤ w13.heap.size := (by have := hgr.size; (try simp at this); omega); have o_u_13 := Lib.hid ho; have lo_u := Lib.hid (own_lo o_u_13.out); have hi_u := Lib.hid (own_hi o_u_13.out); have ac_X0_13 := fun o => cell_b (c_X0_13) (below_alloc _ o); have bc_X0_13 := fun o o1 => cell_b (ac_X0_13 o) (below_alloc _ o1); have ac_X1_13 := fun o => cell_b (c_X1_13) (below_alloc _ o); have bc_X1_13 := fun o o1 => cell_b (ac_X1_13 o) (below_alloc _ o1); have ac_X2_13 := fun o => cell_b (c_X2_13) (below_alloc _ o); have bc_X2_13 := fun o o1 => cell_b (ac_X2_13 o) (below_alloc _ o1); clear hgr c_X0_12 c_X1_12 c_X2_12 r_z_12 T_12 ac_X0_12 bc_X0_12 ac_X1_12 bc_X1_12 ac_X2_12 bc_X2_12 hown ho hloc o_t_12 lo_t hi_t) | (refine step_append_rd rfl _ _ 34 rfl (w.heap.size) i0 Try.underlying34 hi hz0 hz1 hz2 (.slice a1 L.length cap1) (L.length) (L) rfl (own_below (own_below (o_s_11.out) (drew_below _)) (below_alloc _ _)) _ _ _ [xo] rfl (rdb_rd (rdb_lit _ #[.int .i64 xo] [xo] rfl 0 (w11.heap.size) 1 (by simp) rfl (by omega))) rfl (by unfold maxLen; simp; omega) (by simp; omega) (by first | omega | (simp; done) | (simp; omega)) ?_; intro v12 w12 hown hgr hloc; have ho : w12.ownsRow (w.heap.size) 3 1 v12 (L.length + 1) (ints (L ++ [xo])) := (by exact hown); obtain ⟨a2, cap2, hv⟩ := own_shape ho; subst hv; have iv_t : Hid (∀ g, (Value.slice a2 (L.length + 1) cap2).ownBlock = some g → (w.heap.size ≤ g ∧ g < w10.heap.size) ∨ (w11.heap.size + 1 ≤ g ∧ g < w12.heap.size)) := Lib.hid (fun g h => by have h9 := hgr.size; have h7 := own_hi ho g h; rcases hloc with h8 | h8 <;> rw [h8] at h <;> first | (have h1 := lo_s.out g h; have h2 := hi_s.out g h; (try simp at h9); omega) | (injection h with h; (try simp at h9); (try simp at h); omega)); have c_X0_12 := cell_gr (cell_b (cell_b (c_X0_11) (drew_below _)) (below_alloc _ _)) hgr (fun g h => by have h1 := lo_s.out g h; have h2 := hi_s.out g h; show w10.heap.size ≠ g; omega); have c_X1_12 := cell_gr (cell_b (cell_b (c_X1_11) (drew_below _)) (below_alloc _ _)) hgr (fun g h => by have h1 := lo_s.out g h; have h2 := hi_s.out g h; show w10.heap.size ≠ g; omega); have c_X2_12 := cell_gr (cell_b (cell_b (c_X2_11) (drew_below _)) (below_alloc _ _)) hgr (fun g h => by have h1 := lo_s.out g h; have h2 := hi_s.out g h; show w10.heap.size ≠ g; omega); have r_z_12 := Lib.hid (rdi_row (rdi_b (rdi_b (r_z_11.out) (drew_below _)) (below_alloc _ _)) hgr (fun g h => by have h1 := lo_s.out g h; have h2 := hi_s.out g h; omega)); have T_12 := Lib.hid (below_gr (below_trans (below_trans (T_11.out) (drew_below _)) (below_alloc _ _)) (by first | omega | (simp; done) | (simp; omega)) hgr (fun g h => by have h1 := lo_s.out g h; have h2 := hi_s.out g h; omega)); have z_12 : w11.heap.size + 1 ≤ w12.heap.size := (by have := hgr.size; (try simp at this); omega); have o_t_12 := Lib.hid ho; have lo_t := Lib.hid (own_lo o_t_12.out); have hi_t := Lib.hid (own_hi o_t_12.out); have ac_X0_12 := fun o => cell_b (c_X0_12) (below_alloc _ o); have bc_X0_12 := fun o o1 => cell_b (ac_X0_12 o) (below_alloc _ o1); have ac_X1_12 := fun o => cell_b (c_X1_12) (below_alloc _ o); have bc_X1_12 := fun o o1 => cell_b (ac_X1_12 o) (below_alloc _ o1); have ac_X2_12 := fun o => cell_b (c_X2_12) (below_alloc _ o); have bc_X2_12 := fun o o1 => cell_b (ac_X2_12 o) (below_alloc _ o1); clear hgr c_X0_11 c_X1_11 c_X2_11 r_z_11 T_11 ac_X0_11 bc_X0_11 ac_X1_11 bc_X1_11 ac_X2_11 bc_X2_11 hown ho hloc o_s_11 lo_s hi_s) | fail)
          have HE8 : Hid ((L ++ [xo] ++ xs).length = L.length + 1 + xs.length) := Lib.hid (by simp; omega)
          go_wp2_with fail
          go_roundw
          case rel => exact ⟨1, a3, cap3, L ++ [xo] ++ xs, by omega, by omega, rfl, by rw [HE8.out], (by have e9 := HSU.out; rw [HX.out] at e9; exact e9.symm), HOK.out, by rw [HE8.out]; omega, (by rw [HE8.out]; exact ow_eq (o_u_13.out) rfl HE8.out.symm), (T_13.out), by omega⟩
          case measure => simp [intOf]; omega
        obtain ⟨m, rfl⟩ : ∃ m, k = m + 1 := ⟨k - 1, by omega⟩
        have p1 := (HC9.out m (by omega)).1
        obtain ⟨P, hP⟩ : ∃ P : FT, ts[m]'(by omega) = P := ⟨_, rfl⟩
        rw [hP] at p1
        have hgp : ∀ hh : m < (ts.map fl).length, (ts.map fl)[m]'hh = fl P := fun hh => by simp [hP]
        have HGP := Lib.hid hgp
        have n3 : decide ((0 : Int) < (m : Int) + 1) = true := decide_eq_true (by omega)
        have i1 : (0 : Int) ≤ (m : Int) := by omega
        have i2 : (m : Int) < (ts.length : Int) := by omega
        have p1a := fun o => cell_b p1 (below_alloc _ o)
        clear h3 hP hgp
        by_cases h4 : xk ≤ P.1
        · have n4 : decide (xk ≤ P.1) = true := decide_eq_true h4
          have HBAD := Lib.hid (fval_keys (keysOk_bad3 HLM.out (HGX.out _) (HGP.out _) h4))
          clear h1 h2 h4
          go_wp2
          go_quiet (fail)
          go_wp2
          go_ret
          exact ⟨by rw [HBAD.out]; rfl, below_trans HB.out (below_trans (below_alloc _ _) (drewN_below _ _))⟩
        have n4 : decide (xk ≤ P.1) = false := decide_eq_false h4
        have HOK := Lib.hid (keysOk_ok3 HLM.out HK.out (HGX.out _) (HGP.out _) (by show 0 ≤ xk; omega) (by show xk ≤ 99; omega) (by show P.1 < xk; omega))
        by_cases h5 : 6 < xs.length
        · have n5 : decide ((6 : Int) < (xs.length : Int)) = true := decide_eq_true (by omega)
          have HBAD := Lib.hid (HWL.out h5)
          clear h1 h2 h4
          go_wp2
          go_quiet (fail)
          go_wp2
          go_ret
          exact ⟨by rw [HBAD.out]; rfl, below_trans HB.out (below_trans (below_alloc _ _) (drewN_below _ _))⟩
        have n5 : decide ((6 : Int) < (xs.length : Int)) = false := decide_eq_false (by omega)
        clear h1 h2 h4
        go_wp2
        go_quiet (fail)
        go_wp2_with fail
        have c_X0_11 : (((w10).alloc (.cells #[.int .i64 xk, .int .i64 xo, .slice xa xs.length xc] 47)).drewN nq).cell? ⟨w10.heap.size, 0, none⟩ = some (.int .i64 xk) := by simp
        have c_X1_11 : (((w10).alloc (.cells #[.int .i64 xk, .int .i64 xo, .slice xa xs.length xc] 47)).drewN nq).cell? ⟨w10.heap.size, 1, none⟩ = some (.int .i64 xo) := by simp
        have c_X2_11 : (((w10).alloc (.cells #[.int .i64 xk, .int .i64 xo, .slice xa xs.length xc] 47)).drewN nq).cell? ⟨w10.heap.size, 2, none⟩ = some (.slice xa xs.length xc) := by simp
        have o_s_11 : Hid ((((w10).alloc (.cells #[.int .i64 xk, .int .i64 xo, .slice xa xs.length xc] 47)).drewN nq).ownsRow (w.heap.size) 3 1 (.slice a1 L.length cap1) (L.length) (ints (L))) := Lib.hid ((own_below (own_below (o_s_10.out) (below_alloc _ _)) (drewN_below _ _)))
        have r_z_11 : Hid (RdI (((w10).alloc (.cells #[.int .i64 xk, .int .i64 xo, .slice xa xs.length xc] 47)).drewN nq) (0) (w.heap.size) (.slice xa xs.length xc) (xs)) := Lib.hid ((rdi_b (rdi_b (r_z_10.out) (below_alloc _ _)) (drewN_below _ _)))
        have T_11 : Hid (Below w.heap.size w (((w10).alloc (.cells #[.int .i64 xk, .int .i64 xo, .slice xa xs.length xc] 47)).drewN nq)) := Lib.hid (below_trans (below_trans (T_10.out) (below_alloc _ _)) (drewN_below _ _))
        have z_11 : w10.heap.size + 1 ≤ (((w10).alloc (.cells #[.int .i64 xk, .int .i64 xo, .slice xa xs.length xc] 47)).drewN nq).heap.size := (by simp)
        clear o_s_10 r_z_10 T_10
        generalize ((w10).alloc (.cells #[.int .i64 xk, .int .i64 xo, .slice xa xs.length xc] 47)).drewN nq = w11 at *
        have ac_X0_11 := fun o => cell_b (c_X0_11) (below_alloc _ o)
        have bc_X0_11 := fun o o1 => cell_b (ac_X0_11 o) (below_alloc _ o1)
        have ac_X1_11 := fun o => cell_b (c_X1_11) (below_alloc _ o)
        have bc_X1_11 := fun o o1 => cell_b (ac_X1_11 o) (below_alloc _ o1)
        have ac_X2_11 := fun o => cell_b (c_X2_11) (below_alloc _ o)
        have bc_X2_11 := fun o o1 => cell_b (ac_X2_11 o) (below_alloc _ o1)
        go_region_held3 (fun w' => w'.cell? ⟨w10.heap.size, 1, none⟩ = some (.int .i64 xo) ∧ w'.cell? ⟨w10.heap.size, 2, none⟩ = some (.slice xa xs.length xc)) ((refine ⟨?_, ?_⟩ <;> (repeat (first | with_reducible assumption | with_reducible refine cell_b ?_ (below_alloc _ _) | with_reducible refine cell_b ?_ (drew_below _)))))
          (first | (refine step_append_rd rfl _ _ 34 rfl (w.heap.size) i0 Try.underlying34 hi hz0 hz1 hz2 (.slice a2 (L.length + 1) cap2) ((L.length + 1)) (L ++ [xo]) rfl (o_t_12.out) _ _ _ (xs) rfl (rdi_rd (r_z_12.out)) rfl (by unfold maxLen; omega) (by omega) (by first | omega | (simp; done) | (simp; omega)) ?_; intro v13 w13 hown hgr hloc; have ho : w13.ownsRow (w.heap.size) 3 1 v13 ((L.length + 1) + xs.length) (ints (L ++ [xo] ++ xs)) := (by exact hown); obtain ⟨a3, cap3, hv⟩ := own_shape ho; subst hv; have iv_u : Hid (∀ g, (Value.slice a3 ((L.length + 1) + xs.length) cap3).ownBlock = some g → (w.heap.size ≤ g ∧ g < w10.heap.size) ∨ (w11.heap.size + 1 ≤ g ∧ g < w12.heap.size) ∨ (w12.heap.size ≤ g ∧ g < w13.heap.size)) := Lib.hid (fun g h => by have h9 := hgr.size; have h7 := own_hi ho g h; rcases hloc with h8 | h8 <;> rw [h8] at h <;> first | (have h1 := lo_t.out g h; have h2 := hi_t.out g h; have h5 := iv_t.out g h; (try simp at h9); omega) | (injection h with h; (try simp at h9); (try simp at h); omega)); have c_X0_13 := cell_gr (c_X0_12) hgr (fun g h => by have h1 := lo_t.out g h; have h2 := hi_t.out g h; have h5 := iv_t.out g h; show w10.heap.size ≠ g; omega); have c_X1_13 := cell_gr (c_X1_12) hgr (fun g h => by have h1 := lo_t.out g h; have h2 := hi_t.out g h; have h5 := iv_t.out g h; show w10.heap.size ≠ g; omega); have c_X2_13 := cell_gr (c_X2_12) hgr (fun g h => by have h1 := lo_t.out g h; have h2 := hi_t.out g h; have h5 := iv_t.out g h; show w10.heap.size ≠ g; omega); have r_z_13 := Lib.hid (rdi_row (r_z_12.out) hgr (fun g h => by have h1 := lo_t.out g h; have h2 := hi_t.out g h; have h5 := iv_t.out g h; omega)); have T_13 := Lib.hid (below_gr (T_12.out) (by first | omega | (simp; done) | (simp; omega)) hgr (fun g h => by have h1 := lo_t.out g h; have h2 := hi_t.out g h; have h5 := iv_t.out g h; omega)); have z_13 : w12.heap.size ≤ w13.heap.size := (by have := hgr.size; (try simp at this); omega); have o_u_13 := Lib.hid ho; have lo_u := Lib.hid (own_lo o_u_13.out); have hi_u := Lib.hid (own_hi o_u_13.out); have ac_X0_13 := fun o => cell_b (c_X0_13) (below_alloc _ o); have bc_X0_13 := fun o o1 => cell_b (ac_X0_13 o) (below_alloc _ o1); have ac_X1_13 := fun o => cell_b (c_X1_13) (below_alloc _ o); have bc_X1_13 := fun o o1 => cell_b (ac_X1_13 o) (below_alloc _ o1); have ac_X2_13 := fun o => cell_b (c_X2_13) (below_alloc _ o); have bc_X2_13 := fun o o1 => cell_b (ac_X2_13 o) (below_alloc _ o1); clear hgr c_X0_12 c_X1_12 c_X2_12 r_z_12 T_12 ac_X0_12 bc_X0_12 ac_X1_12 bc_X1_12 ac_X2_12 bc_X2_12 hown ho hloc o_t_12 lo_t hi_t) | (refine step_append_rd rfl _ _ 34 rfl (w.heap.size) i0 Try.underlying34 hi hz0 hz1 hz2 (.slice a1 L.length cap1) (L.length) (L) rfl (own_below (own_below (o_s_11.out) (drew_below _)) (below_alloc _ _)) _ _ _ [xo] rfl (rdb_rd (rdb_lit _ #[.int .i64 xo] [xo] rfl 0 (w11.heap.size) 1 (by simp) rfl (by omega))) rfl (by unfold maxLen; simp; omega) (by simp; omega) (by first | omega | (simp; done) | (simp; omega)) ?_; intro v12 w12 hown hgr hloc; have ho : w12.ownsRow (w.heap.size) 3 1 v12 (L.length + 1) (ints (L ++ [xo])) := (by exact hown); obtain ⟨a2, cap2, hv⟩ := own_shape ho; subst hv; have iv_t : Hid (∀ g, (Value.slice a2 (L.length + 1) cap2).ownBlock = some g → (w.heap.size ≤ g ∧ g < w10.heap.size) ∨ (w11.heap.size + 1 ≤ g ∧ g < w12.heap.size)) := Lib.hid (fun g h => by have h9 := hgr.size; have h7 := own_hi ho g h; rcases hloc with h8 | h8 <;> rw [h8] at h <;> first | (have h1 := lo_s.out g h; have h2 := hi_s.out g h; (try simp at h9); omega) | (injection h with h; (try simp at h9); (try simp at h); omega)); have c_X0_12 := cell_gr (cell_b (cell_b (c_X0_11) (drew_below _)) (below_alloc _ _)) hgr (fun g h => by have h1 := lo_s.out g h; have h2 := hi_s.out g h; show w10.heap.size ≠ g; omega); have c_X1_12 := cell_gr (cell_b (cell_b (c_X1_11) (drew_below _)) (below_alloc _ _)) hgr (fun g h => by have h1 := lo_s.out g h; have h2 := hi_s.out g h; show w10.heap.size ≠ g; omega); have c_X2_12 := cell_gr (cell_b (cell_b (c_X2_11) (drew_below _)) (below_alloc _ _)) hgr (fun g h => by have h1 := lo_s.out g h; have h2 := hi_s.out g h; show w10.heap.size ≠ g; omega); have r_z_12 := Lib.hid (rdi_row (rdi_b (rdi_b (r_z_11.out) (drew_below _)) (below_alloc _ _)) hgr (fun g h => by have h1 := lo_s.out g h; have h2 := hi_s.out g h; omega)); have T_12 := Lib.hid (below_gr (below_trans (below_trans (T_11.out) (drew_below _)) (below_alloc _ _)) (by first | omega | (simp; done) | (simp; omega)) hgr (fun g h => by have h1 := lo_s.out g h; have h2 := hi_s.out g h; omega)); have z_12 : w11.heap.size + 1 ≤ w12.heap.size := (by have := hgr.size; (try simp at this); omega); have o_t_12 := Lib.hid ho; have lo_t := Lib.hid (own_lo o_t_12.out); have hi_t := Lib.hid (own_hi o_t_12.out); have ac_X0_12 := fun o => cell_b (c_X0_12) (below_alloc _ o); have bc_X0_12 := fun o o1 => cell_b (ac_X0_12 o) (below_alloc _ o1); have ac_X1_12 := fun o => cell_b (c_X1_12) (below_alloc _ o); have bc_X1_12 := fun o o1 => cell_b (ac_X1_12 o) (below_alloc _ o1); have ac_X2_12 := fun o => cell_b (c_X2_12) (below_alloc _ o); have bc_X2_12 := fun o o1 => cell_b (ac_X2_12 o) (below_alloc _ o1); clear hgr c_X0_11 c_X1_11 c_X2_11 r_z_11 T_11 ac_X0_11 bc_X0_11 ac_X1_11 bc_X1_11 ac_X2_11 bc_X2_11 hown ho hloc o_s_11 lo_s hi_s) | fail)
        have HE8 : Hid ((L ++ [xo] ++ xs).length = L.length + 1 + xs.length) := Lib.hid (by simp; omega)
        go_wp2_with fail
        go_roundw
        case rel => exact ⟨m + 1 + 1, a3, cap3, L ++ [xo] ++ xs, by omega, by omega, by go_num, by rw [HE8.out], (by have e9 := HSU.out; rw [HX.out] at e9; exact e9.symm), HOK.out, by rw [HE8.out]; omega, (by rw [HE8.out]; exact ow_eq (o_u_13.out) rfl HE8.out.symm), (T_13.out), by omega⟩
        case measure => simp [intOf]; omega
      · have hlg : 6 < ts.length := by omega
        clear hL hbel
        go_wp2
        go_ret
        exact ⟨by rw [fval_long (by simpa using hlg)]; rfl, HB.out⟩
    · obtain rfl : k = ts.length := by omega
      clear hL hbel
      by_cases h6 : ts.length ≤ 6
      · have hLl : L.length ≤ 4294967296 := by omega
        go_wp2_with fail
        refine (S_l2Waits _ _ L (own_rd o_s_10.out) hLl).mono ?_
        rintro e w3 ⟨rfl, n, rfl⟩
        go_wp2_with fail
        go_ret
        exact ⟨by rw [vt_eq, fval_dist (by simpa using h6) (by have := HK.out; rwa [List.take_of_length_le (by simp)] at this), HL.out, List.take_of_length_le (by simp)]; rfl, below_trans HB.out (drewN_below _ _)⟩
      · go_wp2
        go_ret
        exact ⟨by rw [fval_long (by simp; omega)]; rfl, HB.out⟩
theorem I_FlightsValid_q (w : World) (B C : Nat) (v : Value) (ts : List FT) (b : Bool) (hr : RdF w B C v ts) (hl : ts.length + tsum ts ≤ 4294967296) (hb : fval (ts.map fl) = b) :
    Calls Try.prog 18 #[v] w fun e w' => e = .returned (.bool b) ∧ Below w.heap.size w w' := by
  subst hb; exact I_FlightsValid w B C v ts hr hl
theorem S_FlightsValid_q (w : World) (B C : Nat) (v : Value) (ts : List FT) (b : Bool) (hr : RdF w B C v ts) (hl : ts.length + tsum ts ≤ 4294967296) (hb : fval (ts.map fl) = b) :
    Calls Try.prog 17 #[v] w fun e w' => e = .returned (.bool b) ∧ Below w.heap.size w w' := by
  subst hb; exact S_FlightsValid w B C v ts hr hl
end Go.Proofs.Ytafpnkcdoeicgaa
