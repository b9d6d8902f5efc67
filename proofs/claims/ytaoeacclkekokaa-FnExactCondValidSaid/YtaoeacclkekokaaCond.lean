/- Contracts of the functions over conditions. -/
import Derived.Test.YtaoeacclkekokaaLeaf
namespace Go.Proofs.Ytaoeacclkekokaa
open Go.RowKit

set_option maxHeartbeats 400000 in
theorem L_szCond_ok (w : World) (a : Option Addr) (n cap : Nat) (l : Int) (h : n ≤ l) (h2 : l ≤ 4294967296) :
    Calls Try.prog 28 #[.agg #[.slice a n cap], .int .i64 l] w fun e w' => e = .returned (.int .i64 (l - n)) ∧ Below w.heap.size w w' := by
  go_enter Try.func28, Try.ntmps28
  go_wp2_with (go_at_call 56; refine (L_szIntS_ok _ _ _ _ _ h h2).mono ?_; rintro e w' ⟨rfl, rfl⟩)
  go_ret
  exact ⟨rfl, (Below.refl _ _).alloc (Nat.le_refl _) _⟩
theorem L_szCond_no (w : World) (a : Option Addr) (n cap : Nat) (l : Int) (h : l < n) (h2 : 0 ≤ l) (hn : n ≤ 9223372036854775807) :
    Calls Try.prog 28 #[.agg #[.slice a n cap], .int .i64 l] w fun e w' => e = .returned (.int .i64 (-1)) ∧ Below w.heap.size w w' := by
  go_enter Try.func28, Try.ntmps28
  go_wp2_with (go_at_call 56; refine (L_szIntS_no _ _ _ _ _ h h2 hn).mono ?_; rintro e w' ⟨rfl, rfl⟩)
  go_ret
  exact ⟨rfl, (Below.refl _ _).alloc (Nat.le_refl _) _⟩

set_option maxHeartbeats 400000 in
theorem I_CondValid (w : World) (v : Value) (xs : List Int) (hr : Rd w v xs) (hl : xs.length ≤ 4294967296) :
    Calls Try.prog 31 #[.agg #[v]] w fun e w' => e = .returned (.bool (vt xs)) ∧ Below w.heap.size w w' := by
  have hr0 := Lib.hid hr
  obtain ⟨a, cap, rfl, hcap, hnc, hr⟩ := hr
  clear hr hnc
  by_cases h6 : xs.length ≤ 6
  · go_enter Try.func31, Try.ntmps31
    go_wp2_with (go_at_call 59; refine (I_distinctThreads _ _ xs (rd_alloc hr0.out _) hl).mono ?_; rintro e w' ⟨rfl, hb⟩)
    go_ret
    exact ⟨by rw [vt_dist h6]; rfl, (below_alloc _ _).trans (hb.mono (by simp))⟩
  · go_enter Try.func31, Try.ntmps31
    go_wp2
    go_ret
    exact ⟨by rw [vt_long (by omega)]; rfl, below_alloc _ _⟩

set_option maxHeartbeats 400000 in
theorem S_CondValid (w : World) (v : Value) (xs : List Int) (hr : Rd w v xs) (hl : xs.length ≤ 4294967296) :
    Calls Try.prog 29 #[.agg #[v]] w fun e w' => e = .returned (.bool (vt xs)) ∧ Below w.heap.size w w' := by
  have hr0 := Lib.hid hr
  obtain ⟨a, cap, rfl, hcap, hnc, hr⟩ := hr
  clear hr hnc
  go_enter Try.func29, Try.ntmps29
  go_wp2_with (go_at_call 57; refine (S_l2Waits _ _ xs (rd_alloc hr0.out _) hl).mono ?_; rintro e w' ⟨rfl, n, rfl⟩)
  go_ret
  exact ⟨rfl, (below_alloc _ _).trans ((drewN_below _ _).mono (by simp))⟩

set_option maxHeartbeats 400000 in
theorem L_eqCond (w : World) (v u : Value) (xs ys : List Int) (hr : Rd w v xs) (hs : Rd w u ys) (hl : xs.length ≤ 4294967296) (hl' : ys.length ≤ 4294967296) :
    Calls Try.prog 32 #[.agg #[v], .agg #[u]] w fun e w' => e = .returned (.bool (eqB xs ys)) ∧ Below w.heap.size w w' := by
  have hr0 := Lib.hid hr
  have hs0 := Lib.hid hs
  obtain ⟨a, cap, rfl, hcap, hnc, hr⟩ := hr
  obtain ⟨b, cap', rfl, hcap', hnc', hs⟩ := hs
  clear hr hnc hs hnc'
  by_cases hq : eqB xs ys = true
  all_goals
    go_enter Try.func32, Try.ntmps32
    go_wp2_with (go_at_call 39; refine (L_eqIntS _ _ _ xs ys (rd_alloc (rd_alloc hr0.out _) _) (rd_alloc (rd_alloc hs0.out _) _) hl hl').mono ?_; rintro e w' ⟨rfl, n, rfl⟩)
    go_ret
    exact ⟨by first | (rw [hq]; rfl) | (rw [eq_false_of_ne_true hq]; rfl), ((below_alloc _ _).trans ((below_alloc _ _).mono (by simp))).trans ((drewN_below _ _).mono (by simp; omega))⟩

set_option maxHeartbeats 400000 in
theorem L_toCond (w : World) (v : Value) (xs : List Int) (hr : Rd w v xs) (hl : xs.length ≤ 4294967296) :
    Calls Try.prog 30 #[.agg #[v]] w fun e w' => ∃ a cap, e = .returned (.agg #[.slice a xs.length cap]) ∧ Ow w' w.heap.size (.slice a xs.length cap) xs ∧ Below w.heap.size w w' := by
  have hr0 := Lib.hid hr
  obtain ⟨a, cap, rfl, hcap, hnc, hr⟩ := hr
  clear hr hnc
  go_enter Try.func30, Try.ntmps30
  go_wp2_with (go_at_call 58; refine (L_toIntS _ _ xs (rd_alloc (rd_alloc (rd_alloc hr0.out _) _) _) hl).mono ?_; rintro e w1 ⟨a', c', rfl, how, hb⟩; obtain ⟨hc, hf⟩ := bcell hb; have HO := Lib.hid how; have HB := Lib.hid hb; clear how hb)
  refine bodyPost_ret (v := .agg #[.slice a' xs.length c']) (by simp [results, Try.results30, go_sem, hc]) rfl ⟨_, _, rfl, ?_, (by (repeat' (first | exact Below.refl _ _ | (refine Below.setCell ?_ ?_ _) | (refine Below.alloc ?_ ?_ _) | (refine Below.drew ?_) | (refine Below.trans ?_ (Below.mono HB.out ?_)))) <;> (simp <;> omega))⟩
  exact own_base (ownsRow_setCell_below (ownsRow_setCell_below HO.out (by simp) _) (by simp <;> omega) _) (by simp <;> omega)
end Go.Proofs.Ytaoeacclkekokaa
