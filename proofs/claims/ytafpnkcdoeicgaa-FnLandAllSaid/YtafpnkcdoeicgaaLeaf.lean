/- Contracts of small functions over slices of numbers. -/
import Derived.Test.YtafpnkcdoeicgaaRows
import Derived.Test.YtafpnkcdoeicgaaBase
import Derived.WalkSpells
import Derived.WalkLawsBesides
import Derived.Laws.AppendOwnNone
import Derived.Maps.OwnSet
import Derived.BigQuiet
import Derived.Deep.QuietTactic
namespace Go.Proofs.Ytafpnkcdoeicgaa
open Go.RowKit

theorem info3 : (Try.prog.info? 3).map (fun i => (i.zero, i.size, i.bytes)) = some (some (.int .i64 0), 1, 8) := by kernel_rfl

set_option maxHeartbeats 400000 in
theorem I_cloneInts (w : World) (v : Value) (xs : List Int) (hr : Rd w v xs) (hl : xs.length ≤ 4294967296) :
    Calls Try.prog 57 #[v] w fun e w' => ∃ a cap, e = .returned (.slice a xs.length cap) ∧ Ow w' w.heap.size (.slice a xs.length cap) xs ∧ Below w.heap.size w w' := by
  obtain ⟨i0, hi, hz0, hz1, hz2⟩ := info_parts info3
  obtain ⟨a, cap, rfl, hcap, hnc, hr⟩ := hr
  rcases a with _ | ad
  · obtain rfl := hnc rfl
    have h0 : xs = [] := List.eq_nil_of_length_eq_zero (by omega)
    subst h0
    go_enter Try.func57, Try.ntmps57
    go_wp2_with (at_builtin; refine wpList_append_own_none rfl _ _ 34 rfl w.heap.size 3 i0 1 Try.underlying34 hi _ _ _ rfl (World.ownsRow_nil _ _ _ _) rfl ?_)
    go_ret
    exact ⟨_, _, rfl, ow_nil _ _, Below.refl _ _⟩
  · have hnews : ∀ j u, (ints xs)[j]? = some u → w.cell? (ad.add j) = some u := by
      rcases hr with hr | ⟨g, off, e, hg, hc⟩
      · have h0 : xs = [] := List.eq_nil_of_length_eq_zero hr
        subst h0; intro j u hu; simp [ints] at hu
      · simp only [Option.some.injEq] at e; subst e; exact rd_news hc
    have HN := Lib.hid hnews
    clear hnews hr hnc
    go_enter Try.func57, Try.ntmps57
    go_wp2_with (at_builtin; refine wpList_append_own _ rfl _ _ 34 rfl w.heap.size 3 i0 (.int .i64 0) 1 8 Try.underlying34 hi hz0 hz1 hz2 rfl (by decide) (.slice none 0 0) 0 [] rfl (World.ownsRow_nil _ _ _ _) ad xs.length cap (ints xs) rfl (by simp [ints]) HN.out ints_one (by unfold maxLen; omega) (by omega) (Nat.le_refl _) ?_; intro v' w1 hown hgrow hnil)
    go_ret
    rw [Nat.zero_add, List.nil_append] at hown
    obtain ⟨a', cap', rfl⟩ := own_shape hown
    exact ⟨_, _, rfl, hown, (Below.refl _ _).grown hgrow (Nat.le_refl _) (fun j hj => by simp [Value.ownBlock] at hj)⟩

theorem I_isThread (w : World) (t : Int) : Calls Try.prog 47 #[.int .i64 t] w fun e w' => e = .returned (.bool (thr t)) ∧ w = w' := by
  go_enter Try.func47, Try.ntmps47
  go_wp2
  all_goals go_ret
  all_goals exact ⟨by unfold thr; congr 2; simp; try omega, rfl⟩

theorem S_l1Thread (w : World) (t : Int) : Calls Try.prog 43 #[.int .i64 t] w fun e w' => e = .returned (.bool (thr t)) ∧ w = w' := by
  go_enter Try.func43, Try.ntmps43
  go_wp2
  all_goals go_ret
  all_goals exact ⟨by unfold thr; congr 2; simp; try omega, rfl⟩

set_option maxHeartbeats 400000 in
theorem S_l2At (w : World) (v : Value) (xs : List Int) (x : Int) (hr : Rd w v xs) (hl : xs.length ≤ 4294967296) :
    Calls Try.prog 64 #[v, .int .i64 x] w fun e w' => e = .returned (.int .i64 (atF xs x)) ∧ w = w' := by
  obtain ⟨a, cap, rfl, hcap, hnc, hr⟩ := hr
  clear hnc
  go_enter Try.func64, Try.ntmps64
  go_wp2
  go_loop [5] (fun i => ∃ k : Nat, k ≤ xs.length ∧ i = .int .i64 k ∧ x ∉ xs.take k) (fun i => xs.length - (intOf i).toNat)
  case atStart => exact ⟨0, Nat.zero_le _, rfl, by simp⟩
  case round =>
    obtain ⟨k, hk, rfl, hn⟩ := hrel
    by_cases hlt : k < xs.length
    · rcases hr with hr | ⟨g, off, rfl, hg, hc⟩
      · omega
      have hck := hc k hlt
      have HN := Lib.hid hn
      clear hc hn
      go_wp2
      · have hx : (xs[k] == x) = true := by assumption
        go_ret
        exact ⟨by rw [atF_hit hlt hx HN.out]; rfl, rfl⟩
      · have hx : (xs[k] == x) = false := by assumption
        go_round
        case rel => exact ⟨k + 1, by omega, by go_num, not_take_succ hlt hx HN.out⟩
        case measure => simp [intOf]; omega
    · have HN := Lib.hid hn
      clear hn
      go_wp2
      go_ret
      exact ⟨by rw [atF_miss (by omega) HN.out]; rfl, rfl⟩

set_option maxHeartbeats 400000 in
theorem slices_Index (w : World) (v : Value) (xs : List Int) (x : Int) (hr : Rd w v xs) (hl : xs.length ≤ 4294967296) :
    Calls Try.prog 65 #[v, .int .i64 x] w fun e w' => e = .returned (.int .i64 (atF xs x)) ∧ w = w' := by
  obtain ⟨a, cap, rfl, hcap, hnc, hr⟩ := hr
  clear hnc
  go_enter Try.func65, Try.ntmps65
  go_wp2
  go_loop [8] (fun i => ∃ k : Nat, k ≤ xs.length ∧ i = .int .i64 k ∧ x ∉ xs.take k) (fun i => xs.length - (intOf i).toNat)
  case atStart => exact ⟨0, Nat.zero_le _, rfl, by simp⟩
  case round =>
    obtain ⟨k, hk, rfl, hn⟩ := hrel
    by_cases hlt : k < xs.length
    · rcases hr with hr | ⟨g, off, rfl, hg, hc⟩
      · omega
      have hck := hc k hlt
      have HN := Lib.hid hn
      clear hc hn
      go_wp2
      · have hx : (x == xs[k]) = true := by assumption
        rw [BEq.comm] at hx
        go_ret
        exact ⟨by rw [atF_hit hlt hx HN.out]; rfl, rfl⟩
      · have hx : (x == xs[k]) = false := by assumption
        rw [BEq.comm] at hx
        go_round
        case rel => exact ⟨k + 1, by omega, by go_num, not_take_succ hlt hx HN.out⟩
        case measure => simp [intOf]; omega
    · have HN := Lib.hid hn
      clear hn
      go_wp2
      go_ret
      exact ⟨by rw [atF_miss (by omega) HN.out]; rfl, rfl⟩

theorem slices_Contains (w : World) (v : Value) (xs : List Int) (x : Int) (hr : Rd w v xs) (hl : xs.length ≤ 4294967296) :
    Calls Try.prog 48 #[v, .int .i64 x] w fun e w' => e = .returned (.bool (hasB xs x)) ∧ w = w' := by
  go_enter Try.func48, Try.ntmps48
  go_wp2_with (go_at_call 65; refine (slices_Index _ _ _ _ hr hl).mono ?_; rintro e w' ⟨rfl, rfl⟩)
  go_ret
  exact ⟨by rw [← hasB_at]; rfl, rfl⟩

set_option maxHeartbeats 400000 in
theorem slices_Equal (w : World) (v u : Value) (xs ys : List Int) (hr : Rd w v xs) (hs : Rd w u ys) (hl : xs.length ≤ 4294967296) (_hl' : ys.length ≤ 4294967296) :
    Calls Try.prog 38 #[v, u] w fun e w' => e = .returned (.bool (eqB xs ys)) ∧ ∃ n, w' = w.drewN n := by
  obtain ⟨a, cap, rfl, hcap, hnc, hr⟩ := hr
  obtain ⟨b, cap', rfl, hcap', hnc', hs⟩ := hs
  clear hnc hnc'
  by_cases hlen : xs.length = ys.length
  · have hlf : ((xs.length : Int) != (ys.length : Int)) = false := by simp [hlen]
    have HL := Lib.hid hlen
    clear hlen
    go_enter Try.func38, Try.ntmps38
    go_wp2
    clear hlf
    go_loopw [13] (fun i wr => ∃ k n : Nat, k ≤ xs.length ∧ i = .int .i64 k ∧ xs.take k = ys.take k ∧ wr = w.drewN n) (fun i _ => xs.length - (intOf i).toNat)
    case atStart => exact ⟨0, 0, Nat.zero_le _, rfl, by simp, rfl⟩
    case round =>
      obtain ⟨k, n, hk, rfl, ht, rfl⟩ := hrel
      have HT := Lib.hid ht
      clear ht
      by_cases hlt : k < xs.length
      · have hlt' : k < ys.length := by have := HL.out; omega
        rcases hr with hr | ⟨g, off, rfl, hg, hc⟩
        · omega
        rcases hs with hs | ⟨g', off', rfl, hg', hc'⟩
        · omega
        have hck := hc k hlt
        have hck' := hc' k hlt'
        clear hc hc'
        go_wp2
        go_quiet (fail)
        go_wp2
        · have hx : (xs[k] != ys[k]) = true := by assumption
          go_ret
          exact ⟨by rw [eqB_bad hlt hlt' hx]; rfl, _, World.drewN_drewN _ _ _⟩
        · have hx : (xs[k] != ys[k]) = false := by assumption
          go_roundw
          case rel => exact ⟨k + 1, n + nq, by omega, by go_num, take_eq_succ hlt hlt' HT.out hx, rfl⟩
          case measure => simp [intOf]; omega
      · go_wp2
        go_ret
        exact ⟨by rw [eqB_all HL.out (by omega) HT.out]; rfl, _, rfl⟩
  · have hlf : ((xs.length : Int) != (ys.length : Int)) = true := by simp; omega
    go_enter Try.func38, Try.ntmps38
    go_wp2
    go_ret
    exact ⟨by rw [eqB_len hlen]; rfl, 0, rfl⟩

set_option maxHeartbeats 400000 in
theorem L_eqIntS (w : World) (v u : Value) (xs ys : List Int) (hr : Rd w v xs) (hs : Rd w u ys) (hl : xs.length ≤ 4294967296) (_hl' : ys.length ≤ 4294967296) :
    Calls Try.prog 25 #[v, u] w fun e w' => e = .returned (.bool (eqB xs ys)) ∧ ∃ n, w' = w.drewN n := by
  obtain ⟨a, cap, rfl, hcap, hnc, hr⟩ := hr
  obtain ⟨b, cap', rfl, hcap', hnc', hs⟩ := hs
  clear hnc hnc'
  by_cases hlen : xs.length = ys.length
  · have hlf : ((xs.length : Int) != (ys.length : Int)) = false := by simp [hlen]
    have HL := Lib.hid hlen
    clear hlen
    go_enter Try.func25, Try.ntmps25
    go_wp2
    clear hlf
    go_loopw [5] (fun i wr => ∃ k n : Nat, k ≤ xs.length ∧ i = .int .i64 k ∧ xs.take k = ys.take k ∧ wr = w.drewN n) (fun i _ => xs.length - (intOf i).toNat)
    case atStart => exact ⟨0, 0, Nat.zero_le _, rfl, by simp, rfl⟩
    case round =>
      obtain ⟨k, n, hk, rfl, ht, rfl⟩ := hrel
      have HT := Lib.hid ht
      clear ht
      by_cases hlt : k < xs.length
      · have hlt' : k < ys.length := by have := HL.out; omega
        rcases hr with hr | ⟨g, off, rfl, hg, hc⟩
        · omega
        rcases hs with hs | ⟨g', off', rfl, hg', hc'⟩
        · omega
        have hck := hc k hlt
        have hck' := hc' k hlt'
        clear hc hc'
        go_wp2
        go_quiet (fail)
        go_wp2
        · have hx : (xs[k] != ys[k]) = true := by assumption
          go_ret
          exact ⟨by rw [eqB_bad hlt hlt' hx]; rfl, _, World.drewN_drewN _ _ _⟩
        · have hx : (xs[k] != ys[k]) = false := by assumption
          go_roundw
          case rel => exact ⟨k + 1, n + nq, by omega, by go_num, take_eq_succ hlt hlt' HT.out hx, rfl⟩
          case measure => simp [intOf]; omega
      · go_wp2
        go_ret
        exact ⟨by rw [eqB_all HL.out (by omega) HT.out]; rfl, _, rfl⟩
  · have hlf : ((xs.length : Int) != (ys.length : Int)) = true := by simp; omega
    go_enter Try.func25, Try.ntmps25
    go_wp2
    go_ret
    exact ⟨by rw [eqB_len hlen]; rfl, 0, rfl⟩

set_option maxHeartbeats 400000 in
theorem S_l2Ints (w : World) (v u : Value) (xs ys : List Int) (hr : Rd w v xs) (hs : Rd w u ys) (hl : xs.length ≤ 4294967296) (_hl' : ys.length ≤ 4294967296) :
    Calls Try.prog 34 #[v, u] w fun e w' => e = .returned (.bool (eqB xs ys)) ∧ ∃ n, w' = w.drewN n := by
  obtain ⟨a, cap, rfl, hcap, hnc, hr⟩ := hr
  obtain ⟨b, cap', rfl, hcap', hnc', hs⟩ := hs
  clear hnc hnc'
  by_cases hlen : xs.length = ys.length
  · have hlf : ((xs.length : Int) != (ys.length : Int)) = false := by simp [hlen]
    have HL := Lib.hid hlen
    clear hlen
    go_enter Try.func34, Try.ntmps34
    go_wp2
    clear hlf
    go_loopw [5] (fun i wr => ∃ k n : Nat, k ≤ xs.length ∧ i = .int .i64 k ∧ xs.take k = ys.take k ∧ wr = w.drewN n) (fun i _ => xs.length - (intOf i).toNat)
    case atStart => exact ⟨0, 0, Nat.zero_le _, rfl, by simp, rfl⟩
    case round =>
      obtain ⟨k, n, hk, rfl, ht, rfl⟩ := hrel
      have HT := Lib.hid ht
      clear ht
      by_cases hlt : k < xs.length
      · have hlt' : k < ys.length := by have := HL.out; omega
        rcases hr with hr | ⟨g, off, rfl, hg, hc⟩
        · omega
        rcases hs with hs | ⟨g', off', rfl, hg', hc'⟩
        · omega
        have hck := hc k hlt
        have hck' := hc' k hlt'
        clear hc hc'
        go_wp2
        go_quiet (fail)
        go_wp2
        · have hx : (xs[k] != ys[k]) = true := by assumption
          go_ret
          exact ⟨by rw [eqB_bad hlt hlt' hx]; rfl, _, World.drewN_drewN _ _ _⟩
        · have hx : (xs[k] != ys[k]) = false := by assumption
          go_roundw
          case rel => exact ⟨k + 1, n + nq, by omega, by go_num, take_eq_succ hlt hlt' HT.out hx, rfl⟩
          case measure => simp [intOf]; omega
      · go_wp2
        go_ret
        exact ⟨by rw [eqB_all HL.out (by omega) HT.out]; rfl, _, rfl⟩
  · have hlf : ((xs.length : Int) != (ys.length : Int)) = true := by simp; omega
    go_enter Try.func34, Try.ntmps34
    go_wp2
    go_ret
    exact ⟨by rw [eqB_len hlen]; rfl, 0, rfl⟩

set_option maxHeartbeats 400000 in
theorem L_wkInts (w : World) (v u : Value) (xs ys : List Int) (hr : Rd w v xs) (hs : Rd w u ys) (hl : xs.length ≤ 4294967296) (_hl' : ys.length ≤ 4294967296) :
    Calls Try.prog 29 #[v, u] w fun e w' => e = .returned (.bool (eqB xs ys)) ∧ ∃ n, w' = w.drewN n := by
  obtain ⟨a, cap, rfl, hcap, hnc, hr⟩ := hr
  obtain ⟨b, cap', rfl, hcap', hnc', hs⟩ := hs
  clear hnc hnc'
  by_cases hlen : xs.length = ys.length
  · have hlf : ((xs.length : Int) != (ys.length : Int)) = false := by simp [hlen]
    have HL := Lib.hid hlen
    clear hlen
    go_enter Try.func29, Try.ntmps29
    go_wp2
    clear hlf
    go_loopw [5] (fun i wr => ∃ k n : Nat, k ≤ xs.length ∧ i = .int .i64 k ∧ xs.take k = ys.take k ∧ wr = w.drewN n) (fun i _ => xs.length - (intOf i).toNat)
    case atStart => exact ⟨0, 0, Nat.zero_le _, rfl, by simp, rfl⟩
    case round =>
      obtain ⟨k, n, hk, rfl, ht, rfl⟩ := hrel
      have HT := Lib.hid ht
      clear ht
      by_cases hlt : k < xs.length
      · have hlt' : k < ys.length := by have := HL.out; omega
        rcases hr with hr | ⟨g, off, rfl, hg, hc⟩
        · omega
        rcases hs with hs | ⟨g', off', rfl, hg', hc'⟩
        · omega
        have hck := hc k hlt
        have hck' := hc' k hlt'
        clear hc hc'
        go_wp2
        go_quiet (fail)
        go_wp2
        · have hx : (xs[k] != ys[k]) = true := by assumption
          go_ret
          exact ⟨by rw [eqB_bad hlt hlt' hx]; rfl, _, World.drewN_drewN _ _ _⟩
        · have hx : (xs[k] != ys[k]) = false := by assumption
          go_roundw
          case rel => exact ⟨k + 1, n + nq, by omega, by go_num, take_eq_succ hlt hlt' HT.out hx, rfl⟩
          case measure => simp [intOf]; omega
      · go_wp2
        go_ret
        exact ⟨by rw [eqB_all HL.out (by omega) HT.out]; rfl, _, rfl⟩
  · have hlf : ((xs.length : Int) != (ys.length : Int)) = true := by simp; omega
    go_enter Try.func29, Try.ntmps29
    go_wp2
    go_ret
    exact ⟨by rw [eqB_len hlen]; rfl, 0, rfl⟩

theorem L_szIntS_ok (w : World) (a : Option Addr) (n cap : Nat) (l : Int) (h : n ≤ l) (h2 : l ≤ 4294967296) :
    Calls Try.prog 62 #[.slice a n cap, .int .i64 l] w fun e w' => e = .returned (.int .i64 (l - n)) ∧ w = w' := by
  go_enter Try.func62, Try.ntmps62
  go_wp2
  go_ret
  exact ⟨rfl, rfl⟩
theorem L_szIntS_no (w : World) (a : Option Addr) (n cap : Nat) (l : Int) (h : l < n) (h2 : 0 ≤ l) (hn : n ≤ 9223372036854775807) :
    Calls Try.prog 62 #[.slice a n cap, .int .i64 l] w fun e w' => e = .returned (.int .i64 (-1)) ∧ w = w' := by
  go_enter Try.func62, Try.ntmps62
  go_wp2
  go_ret
  exact ⟨rfl, rfl⟩

set_option maxHeartbeats 400000 in
theorem L_toIntS (w : World) (v : Value) (xs : List Int) (hr : Rd w v xs) (hl : xs.length ≤ 4294967296) :
    Calls Try.prog 63 #[v] w fun e w' => ∃ a cap, e = .returned (.slice a xs.length cap) ∧ Ow w' w.heap.size (.slice a xs.length cap) xs ∧ Below w.heap.size w w' := by
  obtain ⟨i0, hi, hz0, hz1, hz2⟩ := info_parts info3
  obtain ⟨a, cap, rfl, hcap, hnc, hr⟩ := hr
  clear hnc
  go_enter Try.func63, Try.ntmps63
  go_wp2_with (at_make; refine wpList_make_full _ rfl _ _ 34 rfl w.heap.size 3 i0 (.int .i64 0) 1 Try.underlying34 hi hz0 hz1 .i64 .i64 _ _ xs.length rfl rfl rfl rfl (by rw [hz2]; omega) (by unfold maxLen; omega) (Nat.le_refl _) ?_; intro w1 hown1 hgrow1)
  rw [ints_made] at hown1
  go_loopw [4] (fun i wr => ∃ k : Nat, k ≤ xs.length ∧ i = .int .i64 k ∧ wr.ownsRow w.heap.size 3 1 (.slice (some ⟨w.heap.size, 0, none⟩) xs.length xs.length) xs.length (ints (fillR xs k)) ∧ Below w.heap.size w wr) (fun i _ => xs.length - (intOf i).toNat)
  case atStart => exact ⟨0, Nat.zero_le _, rfl, by rw [fillR_zero]; exact hown1, (Below.refl _ _).grown hgrow1 (Nat.le_refl _) (fun j hj => by cases hj)⟩
  case round =>
    obtain ⟨k, hk, rfl, hown, hbel⟩ := hrel
    by_cases hlt : k < xs.length
    · rcases hr with hr | ⟨g, off, rfl, hg, hc⟩
      · omega
      have hck := (hbel.cell (p := ⟨g, off + k, none⟩) hg).trans (hc k hlt)
      have hfr := hown.frozenAt k
      have hd := hown.cellAt k (by omega)
      rw [ints_get _ k (by rw [fillR_len xs k hk]; exact hlt)] at hd
      have hst := hown.stored k (.int .i64 xs[k])
      rw [fillR_set hlt] at hst
      have HS := Lib.hid hst
      have HB := Lib.hid hbel
      clear hc hst hbel hown hown1 hgrow1
      go_wp2
      go_roundw
      case rel => exact ⟨k + 1, by omega, by go_num, HS.out.1, HB.out.setCell (Nat.le_refl _) _⟩
      case measure => simp [intOf]; omega
    · obtain rfl : k = xs.length := by omega
      rw [fillR_all] at hown
      go_wp2
      go_ret
      exact ⟨_, _, rfl, hown, hbel⟩

set_option maxHeartbeats 400000 in
theorem L_markIntS (w : World) (b : Nat) (v : Value) (xs : List Int) (k : Int) (hr : Ow w b v xs) (hl : xs.length ≤ 4294967296) (hk0 : 0 ≤ k) (hk1 : k ≤ 1099511627776) :
    Calls Try.prog 26 #[v, .int .i64 k] w fun e w' => e = .returned (.int .i64 (k + xs.length)) ∧ Ow w' b v (marks k xs.length) ∧ w.grownBy w' v.ownBlock := by
  have hr0 := hr
  obtain ⟨_, ⟨rfl, h0⟩ | ⟨g, cap, cur, rfl, _⟩⟩ := hr
  · have h0 : xs = [] := List.eq_nil_of_length_eq_zero h0
    subst h0
    go_enter Try.func26, Try.ntmps26
    go_wp2
    refine wp_loop_rounds 1 ?_
    rw [rounds_succ]
    go_wp2
    go_ret
    exact ⟨by simp, hr0, ⟨rfl, rfl, rfl, Nat.le_refl _, fun _ _ _ => rfl⟩⟩
  · go_enter Try.func26, Try.ntmps26
    go_wp2
    go_loopw [1, 5] (fun q i wr => ∃ j : Nat, j ≤ xs.length ∧ i = .int .i64 j ∧ q = .int .i64 (k + j) ∧ wr.ownsRow b 3 1 (.slice (some ⟨g, 0, none⟩) xs.length cap) xs.length (ints (marks k j ++ xs.drop j)) ∧ w.grownBy wr (some g)) (fun _ i _ => xs.length - (intOf i).toNat)
    case atStart => exact ⟨0, Nat.zero_le _, rfl, by simp, hr0, ⟨rfl, rfl, rfl, Nat.le_refl _, fun _ _ _ => rfl⟩⟩
    case round =>
      obtain ⟨j, hj, rfl, rfl, hown, hgr⟩ := hrel
      by_cases hlt : j < xs.length
      · have hfr := hown.frozenAt j
        have hd := hown.cellAt j (by omega)
        rw [ints_get _ j (by rw [fillM_len k xs j hj]; exact hlt)] at hd
        have hst := hown.stored j (.int .i64 (k + j))
        rw [fillM_set k hlt] at hst
        have HS := Lib.hid hst
        have HB := Lib.hid hgr
        clear hst hgr hown hr0
        go_wp2
        go_roundw
        case rel => exact ⟨j + 1, by omega, by go_num, by go_num, HS.out.1, HB.out.trans HS.out.2⟩
        case measure => simp [intOf]; omega
      · obtain rfl : j = xs.length := by omega
        rw [List.drop_of_length_le (Nat.le_refl _), List.append_nil] at hown
        go_wp2
        go_ret
        exact ⟨rfl, by unfold Ow; rw [marks_len]; exact hown, hgr⟩

set_option maxHeartbeats 400000 in
theorem L_heldIntS (w : World) (v : Value) (n : Nat) (k : Int) (hr : Rd w v (marks k n)) (hl : n ≤ 4294967296) (hk0 : 0 ≤ k) (hk1 : k ≤ 1099511627776) :
    Calls Try.prog 27 #[v, .int .i64 k] w fun e w' => e = .returned (.int .i64 (k + n)) ∧ w = w' := by
  obtain ⟨a, cap, rfl, hcap, hnc, hr⟩ := hr
  rw [marks_len] at hr hcap ⊢
  clear hnc
  go_enter Try.func27, Try.ntmps27
  go_wp2
  go_loop [1, 5] (fun q i => ∃ j : Nat, j ≤ n ∧ i = .int .i64 j ∧ q = .int .i64 (k + j)) (fun _ i => n - (intOf i).toNat)
  case atStart => exact ⟨0, Nat.zero_le _, rfl, by simp⟩
  case round =>
    obtain ⟨j, hj, rfl, rfl⟩ := hrel
    by_cases hlt : j < n
    · rcases hr with hr | ⟨g, off, rfl, hg, hc⟩
      · omega
      have hck := hc j hlt
      rw [marks_get n k j hlt] at hck
      clear hc
      go_wp2
      go_round
      case rel => exact ⟨j + 1, by omega, by go_num, by go_num⟩
      case measure => simp [intOf]; omega
    · obtain rfl : j = n := by omega
      go_wp2
      go_ret
      exact ⟨rfl, rfl⟩

set_option maxHeartbeats 400000 in
theorem S_l2Waits (w : World) (v : Value) (xs : List Int) (hr : Rd w v xs) (hl : xs.length ≤ 4294967296) :
    Calls Try.prog 40 #[v] w fun e w' => e = .returned (.bool (vt xs)) ∧ ∃ n, w' = w.drewN n := by
  obtain ⟨a, cap, rfl, hcap, hnc, hr⟩ := hr
  clear hnc
  go_enter Try.func40, Try.ntmps40
  go_wp2
  go_loopw [3] (fun i wr => ∃ k n : Nat, k ≤ xs.length ∧ k ≤ 7 ∧ i = .int .i64 k ∧ dist (xs.take k) = true ∧ wr = w.drewN n) (fun i _ => xs.length - (intOf i).toNat)
  case atStart => exact ⟨0, 0, Nat.zero_le _, by omega, rfl, by simp [dist_nil], rfl⟩
  case round =>
    obtain ⟨k, n, hk, hk7, rfl, hd, hw⟩ := hrel
    have HD := Lib.hid hd
    have HW := Lib.hid hw
    clear hd
    by_cases hlt : k < xs.length
    · rcases hr with hr | ⟨g, off, rfl, hg, hc⟩
      · omega
      have hck : wr.cell? ⟨g, off + k, none⟩ = some (.int .i64 (xs.getD k 0)) := by rw [hw]; exact hc k hlt
      by_cases hk6 : k ≤ 6
      · have hrt : ∀ nq cp, k ≤ cp → Rd (wr.drewN nq) (.slice (some ⟨g, off, none⟩) k cp) (xs.take k) := by
          intro nq cp hcp
          have e : (xs.take k).length = k := by simp; omega
          refine ⟨_, cp, by rw [e], by rw [e]; exact hcp, by simp, .inr ⟨g, off, rfl, by rw [hw]; exact hg, fun j hj => ?_⟩⟩
          rw [e] at hj
          have := hc j (by omega)
          rw [show (xs.take k).getD j 0 = xs.getD j 0 by simp [List.getD, hj], hw]
          exact this
        have HR := Lib.hid hrt
        clear hrt hc hw
        by_cases hth : thr xs[k] = true
        · go_wp2
          go_quiet ((first | (go_at_call 43; exact quiet_same (S_l1Thread _ _)) | (go_at_call 64; exact quiet_same (S_l2At _ _ (xs.take k) _ (HR.out _ _ (by omega)) (by simp; omega)))))
          go_wp2
          · have hx : 0 ≤ atF (xs.take k) xs[k] := by assumption
            go_ret
            exact ⟨by rw [vt_bad (dist_bad hlt (.inr (atF_nonneg.1 hx)))]; rfl, _, by rw [HW.out, World.drewN_drewN]⟩
          · have hx : atF (xs.take k) xs[k] < 0 := by assumption
            go_roundw
            case rel => exact ⟨k + 1, n + nq, by omega, by omega, by go_num, dist_step hlt HD.out hth (atF_neg.1 hx), by rw [HW.out, World.drewN_drewN]⟩
            case measure => simp [intOf]; omega
        · have hth' : thr xs[k] = false := by simpa using hth
          go_wp2
          go_quiet ((first | (go_at_call 43; exact quiet_same (S_l1Thread _ _))))
          go_wp2
          go_ret
          exact ⟨by rw [vt_bad (dist_bad hlt (.inl hth'))]; rfl, _, by rw [HW.out, World.drewN_drewN]⟩
      · clear hc hw
        go_wp2
        go_ret
        exact ⟨by rw [vt_long (by omega)]; simp; omega, _, HW.out⟩
    · obtain rfl : k = xs.length := by omega
      have hvt : vt xs = decide (xs.length ≤ 6) := by unfold vt; rw [dist_all (Nat.le_refl _) HD.out, Bool.and_true]
      have HV := Lib.hid hvt
      clear hvt hw
      go_wp2
      all_goals go_ret
      all_goals exact ⟨by rw [HV.out]; simp; try omega, _, HW.out⟩

theorem keyInt : Maps.Keyed Try.prog 3 := Maps.int_keyed Try.underlying3
theorem zeroBool (w : World) : (zeroValue 4).run Try.prog w = .ok (.bool false) w := by kernel_rfl
theorem thr_wf {t : Int} (h : thr t = true) : (Lit.int .i64 t).wf = true := by
  unfold thr at h; simp at h; exact WalkArith.wf_i64 (by omega)
set_option maxHeartbeats 400000 in
theorem I_distinctThreads (w : World) (v : Value) (xs : List Int) (hr : Rd w v xs) (hl : xs.length ≤ 4294967296) :
    Calls Try.prog 41 #[v] w fun e w' => e = .returned (.bool (dist xs)) ∧ Below w.heap.size w w' := by
  obtain ⟨a, cap, rfl, hcap, hnc, hr⟩ := hr
  clear hnc
  have hmm := @run_makeMap Try.prog
  go_enter Try.func41, Try.ntmps41
  go_wp2
  go_loopw [9] (fun i wr => ∃ k : Nat, k ≤ xs.length ∧ i = .int .i64 k ∧ dist (xs.take k) = true ∧ wr.ownsMap Try.prog 3 (plainElem Try.prog 4) w.heap.size k (Sd xs k) ∧ Below w.heap.size w wr) (fun i _ => xs.length - (intOf i).toNat)
  case atStart => exact ⟨0, Nat.zero_le _, rfl, by simp [dist_nil], World.ownsMap_made _ _ _ _, (Below.refl _ _).alloc (Nat.le_refl _) _⟩
  case round =>
    obtain ⟨k, hk, rfl, hd, hown, hbel⟩ := hrel
    have HD := Lib.hid hd
    clear hd hmm
    by_cases hlt : k < xs.length
    · rcases hr with hr | ⟨g, off, rfl, hg, hc⟩
      · omega
      have hck := (hbel.cell (p := ⟨g, off + k, none⟩) hg).trans (hc k hlt)
      have HB := Lib.hid hbel
      clear hc hbel
      by_cases hth : thr xs[k] = true
      · have hkey : keyOf Try.prog 3 (.int .i64 xs[k]) = some (.int .i64 xs[k]) := Maps.keyOf_int_mk Try.underlying3 (thr_wf hth)
        have hlook : (Instr.lookup 73 (.map (some w.heap.size)) (.int .i64 xs[k]) false).run Try.prog wr = .ok (.bool (hasB (xs.take k) xs[k])) wr := by
          obtain ⟨v, ps, hrun, hv⟩ := hown.lookup keyInt Try.underlying73 (zeroBool wr) (zd := .lit (.bool false)) (zp := []) (plainElem_bool Try.underlying4 false) hkey
          rw [Sd_at xs _ k hk] at hv
          obtain ⟨b, rfl, hb⟩ := plainElem_bool_inv Try.underlying4 hv
          simp only [Prod.mk.injEq, DataW.lit.injEq, Lit.bool.injEq] at hb
          rw [hrun, hb.1]
        have HO := Lib.hid hown
        have HK := Lib.hid hkey
        clear hown hkey
        by_cases hh : hasB (xs.take k) xs[k] = true
        · go_wp2_with (first | (go_at_call 47; refine (I_isThread _ _).mono ?_; rintro e w' ⟨rfl, rfl⟩))
          go_ret
          exact ⟨by rw [dist_bad hlt (.inr (of_decide_eq_true hh))]; rfl, HB.out⟩
        · have hh' : hasB (xs.take k) xs[k] = false := by simpa using hh
          clear hh
          go_wp2_with (first | (go_at_call 47; refine (I_isThread _ _).mono ?_; rintro e w' ⟨rfl, rfl⟩) | (at_mapUpdate; refine wpList_mapUpdate_own _ rfl _ _ _ 73 rfl 3 4 keyInt Try.underlying73 _ w.heap.size k _ rfl HO.out (by unfold maxLen; omega) _ _ _ rfl rfl HK.out _ [] (plainElem_bool Try.underlying4 true) ?_; intro w1 hown1 hgrow1))
          go_roundw
          case rel => exact ⟨k + 1, by omega, by go_num, dist_step hlt HD.out hth (of_decide_eq_false hh'), by rw [Sd_succ hlt]; exact hown1, HB.out.grown hgrow1 HB.out.size (fun j hj => by cases hj; exact Nat.le_refl _)⟩
          case measure => simp [intOf]; omega
      · have hth' : thr xs[k] = false := by simpa using hth
        clear hth
        go_wp2_with (first | (go_at_call 47; refine (I_isThread _ _).mono ?_; rintro e w' ⟨rfl, rfl⟩))
        go_ret
        exact ⟨by rw [dist_bad hlt (.inl hth')]; rfl, HB.out⟩
    · go_wp2
      go_ret
      exact ⟨by rw [dist_all (by omega) HD.out]; rfl, hbel⟩

end Go.Proofs.Ytafpnkcdoeicgaa
