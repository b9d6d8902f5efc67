/- Contracts over semaphores. -/
import Derived.Test.YtcbdpcalmafdiaaDoorWaiter
namespace Go.Proofs.YtcbdpcalmafdiaaDoor
open Go.RowKit

theorem eqP_true {P : Program} {f : FuncId} {args : Array Value} {w : World} {R : World → Prop} {xs : List (Int × Int)} (h : Calls P f args w fun e w' => e = .returned (.bool (eqP xs xs)) ∧ R w') : Calls P f args w fun e w' => e = .returned (.bool true) ∧ R w' := by rw [eqP_self] at h; exact h
theorem setP_below {w : World} {b e s : Nat} {v : Value} {n : Nat} {xs : List Value} (h : w.ownsRow b e s v n xs) {p : Addr} (hp : p.block < b) (u : Value) : (w.setCell p u).ownsRow b e s v n xs := by
  have hg : w.grownBy (w.setCell p u) (some p.block) := ⟨rfl, rfl, rfl, by simp [World.setCell], fun i _ hne => Below.heap_setCell w p u i (by rintro rfl; exact hne rfl)⟩
  exact own_gr h hg (fun g g' h1 h2 => by injection h1 with h1; have := (h.lt g' h2).1; omega)
set_option maxHeartbeats 400000 in
theorem L_szSem_ok (w : World) (p q : Int) (a : Option Addr) (n cap : Nat) (l : Int) (h : n ≤ l) (h2 : l ≤ 4294967296) :
    Calls Tryd.prog 7 #[.agg #[.int .i64 p, .int .i64 q, .slice a n cap], .int .i64 l] w fun e w' => e = .returned (.int .i64 (l - n)) ∧ Below w.heap.size w w' := by
  go_enter Tryd.func7, Tryd.ntmps7
  go_wp2_with (go_at_call 18; refine (L_szWaiterS_ok _ _ _ _ _ h h2).mono ?_; rintro e w' ⟨rfl, rfl⟩)
  go_ret
  exact ⟨rfl, (Below.refl _ _).alloc (Nat.le_refl _) _⟩
set_option maxHeartbeats 400000 in
theorem L_szSem_no (w : World) (p q : Int) (a : Option Addr) (n cap : Nat) (l : Int) (h : l < n) (h2 : 0 ≤ l) (hn : n ≤ 9223372036854775807) :
    Calls Tryd.prog 7 #[.agg #[.int .i64 p, .int .i64 q, .slice a n cap], .int .i64 l] w fun e w' => e = .returned (.int .i64 (-1)) ∧ Below w.heap.size w w' := by
  go_enter Tryd.func7, Tryd.ntmps7
  go_wp2_with (go_at_call 18; refine (L_szWaiterS_no _ _ _ _ _ h h2 hn).mono ?_; rintro e w' ⟨rfl, rfl⟩)
  go_ret
  exact ⟨rfl, (Below.refl _ _).alloc (Nat.le_refl _) _⟩

set_option maxHeartbeats 400000 in
theorem L_eqSem (w : World) (p q : Int) (v u : Value) (xs ys : List (Int × Int)) (hr : RdW w v xs) (hs : RdW w u ys) (hl : xs.length ≤ 4294967296) (hl' : ys.length ≤ 4294967296) :
    Calls Tryd.prog 11 #[.agg #[.int .i64 p, .int .i64 q, v], .agg #[.int .i64 p, .int .i64 q, u]] w fun e w' => e = .returned (.bool (eqP xs ys)) ∧ Below w.heap.size w w' := by
  have hr0 := Lib.hid hr
  have hs0 := Lib.hid hs
  obtain ⟨a, cap, rfl, hcap, hnc, hr⟩ := rdw_cells hr
  obtain ⟨b, cap', rfl, hcap', hnc', hs⟩ := rdw_cells hs
  clear hr hnc hs hnc'
  by_cases hq : eqP xs ys = true
  all_goals
    go_enter Tryd.func11, Tryd.ntmps11
    go_wp2_with fail
    refine (L_eqWaiterS _ _ _ xs ys (rdx_alloc (rdx_alloc hr0.out _) _) (rdx_alloc (rdx_alloc hs0.out _) _) hl hl').mono ?_
    rintro e w1 ⟨rfl, hb⟩
    have HB := Lib.hid (below_trans (below_alloc _ _) (below_trans (below_alloc _ _) hb))
    clear hb
    first | rw [hq] | rw [eq_false_of_ne_true hq]
    go_wp2_with fail
    go_ret
    exact ⟨by first | (rw [hq]; rfl) | (rw [eq_false_of_ne_true hq]; rfl), HB.out⟩

set_option maxHeartbeats 4000000 in
theorem L_toSem (w : World) (p q : Int) (v : Value) (xs : List (Int × Int)) (hr : RdW w v xs) (hl : xs.length ≤ 4294967296) :
    Calls Tryd.prog 9 #[.agg #[.int .i64 p, .int .i64 q, v]] w fun e w' => ∃ a cap, e = .returned (.agg #[.int .i64 p, .int .i64 q, .slice a xs.length cap]) ∧ OwP w' w.heap.size (.slice a xs.length cap) xs ∧ Below w.heap.size w w' := by
  have hr0 := Lib.hid hr
  obtain ⟨a, cap, rfl, hcap, hnc, hr⟩ := rdw_cells hr
  clear hr hnc
  go_enter Tryd.func9, Tryd.ntmps9
  go_wp2_with (go_at_call 20; refine (L_toWaiterS _ _ xs (rdx_alloc (rdx_alloc (rdx_alloc hr0.out _) _) _) hl).mono ?_; rintro e w1 ⟨a', c', rfl, how, hb⟩; obtain ⟨hc, hf⟩ := bcell hb; have HO := Lib.hid (own_base how (show w.heap.size + 3 ≤ _ by simp)); have HB := Lib.hid hb; clear how hb)
  refine bodyPost_ret (v := .agg #[.int .i64 p, .int .i64 q, .slice a' xs.length c']) (by simp [results, Tryd.results9, go_sem, hc]) rfl ⟨_, _, rfl, ?_, (by have B0 := below_trans (below_alloc _ _) (below_trans (below_alloc _ _) (below_trans (below_alloc _ _) HB.out)); (repeat (refine Below.setCell ?_ (by simp; try omega) _)); exact B0)⟩
  refine own_base (b := w.heap.size + 3) ?_ (by omega)
  repeat (first | exact HO.out | refine setP_below ?_ (by simp) _)

set_option maxHeartbeats 1000000 in
theorem I_SemSame (w : World) (p q p' q' : Int) (v : Value) (xs : List (Int × Int)) (u : Value) (ys : List (Int × Int)) (hr : RdW w v xs) (hs : RdW w u ys) (hl : xs.length ≤ 4294967296) (hl' : ys.length ≤ 4294967296) :
    Calls Tryd.prog 13 #[.agg #[.int .i64 p, .int .i64 q, v], .agg #[.int .i64 p', .int .i64 q', u]] w fun e w' => e = .returned (.bool (decide (p = p') && decide (q = q') && eqP xs ys)) ∧ Below w.heap.size w w' := by
  have hr0 := Lib.hid hr
  have hs0 := Lib.hid hs
  obtain ⟨a, cap, rfl, hcap, hnc, hr⟩ := rdw_cells hr
  obtain ⟨b, cap', rfl, hcap', hnc', hs⟩ := rdw_cells hs
  clear hr hnc hs hnc'
  by_cases h1 : p = p'
  · subst h1
    by_cases h2 : q = q'
    · subst h2
      go_enter Tryd.func13, Tryd.ntmps13
      go_wp2_with fail
      refine (slices_EqualW _ _ _ xs ys (rdx_alloc (rdx_alloc hr0.out _) _) (rdx_alloc (rdx_alloc hs0.out _) _) hl hl').mono ?_
      rintro e w1 ⟨rfl, n, rfl⟩
      go_wp2_with fail
      go_ret
      exact ⟨by simp, below_trans (below_alloc _ _) (below_trans (below_alloc _ _) (drewN_below _ _))⟩
    · go_enter Tryd.func13, Tryd.ntmps13
      go_wp2
      go_ret
      exact ⟨by simp [h2], below_trans (below_alloc _ _) (below_alloc _ _)⟩
  · go_enter Tryd.func13, Tryd.ntmps13
    go_wp2
    go_ret
    exact ⟨by simp [h1], below_trans (below_alloc _ _) (below_alloc _ _)⟩

set_option maxHeartbeats 1000000 in
theorem S_SemSame (w : World) (p q p' q' : Int) (v : Value) (xs : List (Int × Int)) (u : Value) (ys : List (Int × Int)) (hr : RdW w v xs) (hs : RdW w u ys) (hl : xs.length ≤ 4294967296) (_hl' : ys.length ≤ 4294967296) :
    Calls Tryd.prog 14 #[.agg #[.int .i64 p, .int .i64 q, v], .agg #[.int .i64 p', .int .i64 q', u]] w fun e w' => e = .returned (.bool (decide (p = p') && decide (q = q') && eqP xs ys)) ∧ Below w.heap.size w w' := by
  obtain ⟨a, cap, rfl, hcap, hnc, hr⟩ := rdw_cells hr
  obtain ⟨b, cap', rfl, hcap', hnc', hs⟩ := rdw_cells hs
  clear hnc hnc'
  by_cases h1 : p = p'
  · subst h1
    by_cases h2 : q = q'
    · subst h2
      by_cases hlen : xs.length = ys.length
      · have hlf : ((xs.length : Int) != (ys.length : Int)) = false := by simp [hlen]
        have HL := Lib.hid hlen
        clear hlen
        go_enter Tryd.func14, Tryd.ntmps14
        go_wp2
        clear hlf
        go_loopw [5] (fun i wr => ∃ k : Nat, k ≤ xs.length ∧ i = .int .i64 k ∧ xs.take k = ys.take k ∧ wr.cell? ⟨w.heap.size, 2, none⟩ = some (.slice a xs.length cap) ∧ wr.cell? ⟨w.heap.size + 1, 2, none⟩ = some (.slice b ys.length cap') ∧ Below w.heap.size w wr) (fun i _ => xs.length - (intOf i).toNat)
        case atStart => exact ⟨0, Nat.zero_le _, rfl, by simp, by simp, by simp, below_trans (below_alloc _ _) (below_alloc _ _)⟩
        case round =>
          obtain ⟨k, hk, rfl, ht, hc1, hc2, hbel⟩ := hrel
          have HT := Lib.hid ht
          have HB := Lib.hid hbel
          clear ht hbel
          by_cases hlt : k < xs.length
          · have hlt' : k < ys.length := by have := HL.out; omega
            rcases hr with hr | ⟨g, off, rfl, hg, hc⟩
            · omega
            rcases hs with hs | ⟨g', off', rfl, hg', hc'⟩
            · omega
            have e1 := cell_b (hc k hlt).1 HB.out
            have e2 := cell_b (hc k hlt).2 HB.out
            have f1 := cell_b (hc' k hlt').1 HB.out
            have f2 := cell_b (hc' k hlt').2 HB.out
            have n1 := neqW_run
            have n2 := guardW_run
            clear hc hc'
            by_cases hx : eqW xs[k].1 xs[k].2 ys[k].1 ys[k].2 = true
            · have HX := Lib.hid (eqW_true hx)
              have HC := Lib.hid (And.intro hc1 hc2)
              go_wp2
              go_quiet (fail)
              go_wp2
              go_roundw
              case rel => exact ⟨k + 1, by omega, by go_num, takeP_succ hlt hlt' HT.out HX.out, cell_b HC.out.1 (drewN_below _ _), cell_b HC.out.2 (drewN_below _ _), HB.out.trans ((drewN_below _ _).mono HB.out.size)⟩
              case measure => simp [intOf]; omega
            · have hx' : eqW xs[k].1 xs[k].2 ys[k].1 ys[k].2 = false := by simpa using hx
              have HX := Lib.hid (eqW_false hx')
              clear hx
              go_wp2
              go_quiet (fail)
              go_wp2
              go_ret
              exact ⟨by rw [eqP_bad hlt hlt' HX.out]; simp, HB.out.trans ((drewN_below _ _).mono HB.out.size)⟩
          · go_wp2
            go_ret
            exact ⟨by rw [eqP_all HL.out (by omega) HT.out]; simp, HB.out⟩
      · have hlf : ((xs.length : Int) != (ys.length : Int)) = true := by simp; omega
        go_enter Tryd.func14, Tryd.ntmps14
        go_wp2
        go_ret
        exact ⟨by rw [eqP_len hlen]; simp, below_trans (below_alloc _ _) (below_alloc _ _)⟩
    · go_enter Tryd.func14, Tryd.ntmps14
      go_wp2
      go_ret
      exact ⟨by simp [h2], below_trans (below_alloc _ _) (below_alloc _ _)⟩
  · go_enter Tryd.func14, Tryd.ntmps14
    go_wp2
    go_ret
    exact ⟨by simp [h1], below_trans (below_alloc _ _) (below_alloc _ _)⟩

set_option maxHeartbeats 400000 in
theorem S_l1Find (w : World) (v : Value) (xs : List (Int × Int)) (x : Int) (hr : RdW w v xs) (hl : xs.length ≤ 4294967296) :
    Calls Tryd.prog 46 #[v, .int .i64 x] w fun e w' => e = .returned (.int .i64 (atF (xs.map Prod.fst) x)) ∧ w = w' := by
  obtain ⟨a, cap, rfl, hcap, hnc, hr⟩ := rdw_cells hr
  clear hnc
  go_enter Tryd.func46, Tryd.ntmps46
  go_wp2
  go_loop [5] (fun i => ∃ k : Nat, k ≤ xs.length ∧ i = .int .i64 k ∧ x ∉ (xs.map Prod.fst).take k) (fun i => xs.length - (intOf i).toNat)
  case atStart => exact ⟨0, Nat.zero_le _, rfl, by simp⟩
  case round =>
    obtain ⟨k, hk, rfl, hn⟩ := hrel
    by_cases hlt : k < xs.length
    · rcases hr with hr | ⟨g, off, rfl, hg, hc⟩
      · omega
      have hck := (hc k hlt).1
      have hlm : k < (xs.map Prod.fst).length := by simpa using hlt
      have hel : (xs.map Prod.fst)[k] = xs[k].1 := by simp
      have HE := Lib.hid hel
      have HM := Lib.hid hlm
      have HN := Lib.hid hn
      clear hc hn hel
      go_wp2
      · have hx : (xs[k].1 == x) = true := by assumption
        go_ret
        exact ⟨by rw [atF_hit HM.out (by rw [HE.out]; exact hx) HN.out]; rfl, rfl⟩
      · have hx : (xs[k].1 == x) = false := by assumption
        go_round
        case rel => exact ⟨k + 1, by omega, by go_num, not_take_succ HM.out (by rw [HE.out]; exact hx) HN.out⟩
        case measure => simp [intOf]; omega
    · have HN := Lib.hid hn
      clear hn
      go_wp2
      go_ret
      exact ⟨by rw [atF_miss (by simp; omega) HN.out]; rfl, rfl⟩

end Go.Proofs.YtcbdpcalmafdiaaDoor
