/- Contracts of small functions over slices of numbers. -/
import Derived.Test.YtcbdpcalmafdiaaDoorRows
import Derived.Test.YtcbdpcalmafdiaaDoorBase
import Derived.WalkSpells
import Derived.WalkLawsBesides
import Derived.Laws.AppendOwnNone
import Derived.Maps.OwnSet
import Derived.BigQuiet
import Derived.Deep.QuietTactic
namespace Go.Proofs.YtcbdpcalmafdiaaDoor
open Go.RowKit

theorem info3 : (Tryd.prog.info? 3).map (fun i => (i.zero, i.size, i.bytes)) = some (some (.int .i64 0), 1, 8) := by kernel_rfl

theorem I_isThread (w : World) (t : Int) : Calls Tryd.prog 42 #[.int .i64 t] w fun e w' => e = .returned (.bool (thr t)) ∧ w = w' := by
  go_enter Tryd.func42, Tryd.ntmps42
  go_wp2
  all_goals go_ret
  all_goals exact ⟨by unfold thr; congr 2; simp; try omega, rfl⟩

theorem S_l1Thread (w : World) (t : Int) : Calls Tryd.prog 32 #[.int .i64 t] w fun e w' => e = .returned (.bool (thr t)) ∧ w = w' := by
  go_enter Tryd.func32, Tryd.ntmps32
  go_wp2
  all_goals go_ret
  all_goals exact ⟨by unfold thr; congr 2; simp; try omega, rfl⟩

theorem keyInt : Maps.Keyed Tryd.prog 3 := Maps.int_keyed Tryd.underlying3
theorem zeroBool (w : World) : (zeroValue 4).run Tryd.prog w = .ok (.bool false) w := by kernel_rfl
theorem thr_wf {t : Int} (h : thr t = true) : (Lit.int .i64 t).wf = true := by
  unfold thr at h; simp at h; exact WalkArith.wf_i64 (by omega)
set_option maxHeartbeats 400000 in
theorem I_distinctThreads (w : World) (v : Value) (xs : List Int) (hr : Rd w v xs) (hl : xs.length ≤ 4294967296) :
    Calls Tryd.prog 31 #[v] w fun e w' => e = .returned (.bool (dist xs)) ∧ Below w.heap.size w w' := by
  obtain ⟨a, cap, rfl, hcap, hnc, hr⟩ := hr
  clear hnc
  have hmm := @run_makeMap Tryd.prog
  go_enter Tryd.func31, Tryd.ntmps31
  go_wp2
  go_loopw [9] (fun i wr => ∃ k : Nat, k ≤ xs.length ∧ i = .int .i64 k ∧ dist (xs.take k) = true ∧ wr.ownsMap Tryd.prog 3 (plainElem Tryd.prog 4) w.heap.size k (Sd xs k) ∧ Below w.heap.size w wr) (fun i _ => xs.length - (intOf i).toNat)
  case atStart => exact ⟨0, Nat.zero_le _, rfl, by simp [dist_nil], World.ownsMap_made _ _ _ _, (Below.refl _ _).alloc (Nat.le_refl _) _⟩
  case round =>
    obtain ⟨k, hk, rfl, hd, hown, hbel⟩ := hrel
    have HD := Lib.hid hd
    clear hd hmm
    by_cases hlt : k < xs.length
    · rcases hr with hr | ⟨g, off, rfl, hg, hc⟩
      · omega
      have hck := (hbel.cell (p := ⟨g, off + k, none⟩) hg).trans (hc k hlt)
      have HB := Lib.hid hbel
      clear hc hbel
      by_cases hth : thr xs[k] = true
      · have hkey : keyOf Tryd.prog 3 (.int .i64 xs[k]) = some (.int .i64 xs[k]) := Maps.keyOf_int_mk Tryd.underlying3 (thr_wf hth)
        have hlook : (Instr.lookup 77 (.map (some w.heap.size)) (.int .i64 xs[k]) false).run Tryd.prog wr = .ok (.bool (hasB (xs.take k) xs[k])) wr := by
          obtain ⟨v, ps, hrun, hv⟩ := hown.lookup keyInt Tryd.underlying77 (zeroBool wr) (zd := .lit (.bool false)) (zp := []) (plainElem_bool Tryd.underlying4 false) hkey
          rw [Sd_at xs _ k hk] at hv
          obtain ⟨b, rfl, hb⟩ := plainElem_bool_inv Tryd.underlying4 hv
          simp only [Prod.mk.injEq, DataW.lit.injEq, Lit.bool.injEq] at hb
          rw [hrun, hb.1]
        have HO := Lib.hid hown
        have HK := Lib.hid hkey
        clear hown hkey
        by_cases hh : hasB (xs.take k) xs[k] = true
        · go_wp2_with (first | (go_at_call 42; refine (I_isThread _ _).mono ?_; rintro e w' ⟨rfl, rfl⟩))
          go_ret
          exact ⟨by rw [dist_bad hlt (.inr (of_decide_eq_true hh))]; rfl, HB.out⟩
        · have hh' : hasB (xs.take k) xs[k] = false := by simpa using hh
          clear hh
          go_wp2_with (first | (go_at_call 42; refine (I_isThread _ _).mono ?_; rintro e w' ⟨rfl, rfl⟩) | (at_mapUpdate; refine wpList_mapUpdate_own _ rfl _ _ _ 77 rfl 3 4 keyInt Tryd.underlying77 _ w.heap.size k _ rfl HO.out (by unfold maxLen; omega) _ _ _ rfl rfl HK.out _ [] (plainElem_bool Tryd.underlying4 true) ?_; intro w1 hown1 hgrow1))
          go_roundw
          case rel => exact ⟨k + 1, by omega, by go_num, dist_step hlt HD.out hth (of_decide_eq_false hh'), by rw [Sd_succ hlt]; exact hown1, HB.out.grown hgrow1 HB.out.size (fun j hj => by cases hj; exact Nat.le_refl _)⟩
          case measure => simp [intOf]; omega
      · have hth' : thr xs[k] = false := by simpa using hth
        clear hth
        go_wp2_with (first | (go_at_call 42; refine (I_isThread _ _).mono ?_; rintro e w' ⟨rfl, rfl⟩))
        go_ret
        exact ⟨by rw [dist_bad hlt (.inl hth')]; rfl, HB.out⟩
    · go_wp2
      go_ret
      exact ⟨by rw [dist_all (by omega) HD.out]; rfl, hbel⟩

end Go.Proofs.YtcbdpcalmafdiaaDoor
