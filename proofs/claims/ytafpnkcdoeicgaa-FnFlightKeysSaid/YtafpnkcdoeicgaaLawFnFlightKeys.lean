/- The law FnFlightKeys: the walk. -/
import Derived.Test.YtafpnkcdoeicgaaFlightCode
import Derived.Test.YtafpnkcdoeicgaaJoinNo
import Derived.Deep.RegionHeld3
import Derived.Deep.DrawnRows
import Derived.Deep.RegionLaw
namespace Go.Proofs.Ytafpnkcdoeicgaa
open Go.RowKit
attribute [local go_sem ↓] Go.wp_at_zero Go.wp_at_succ
/-- An owner is one of the threads. -/
theorem owner_in {X : List FT} {k : Nat} (h : k < X.length) : hasB (thrs (X.map fl)) X[k].2.1 = true :=
  decide_eq_true (List.mem_flatMap.2 ⟨fl X[k], List.mem_map.2 ⟨_, List.getElem_mem h, rfl⟩, List.mem_cons_self⟩)
theorem thrs_take_fval {X : List FT} (h : fval (X.map fl) = true) (k : Nat) : (thrs ((X.map fl).take k)).length ≤ 6 := by
  have h1 := thrs_take_le X k
  have h2 := fval_sum h
  simp only [List.length_map] at h2
  unfold tsum at h1
  omega
/-- At the head of the loop over the flights. -/
def FKHead (w : World) (X : List FT) (vn vi : Value) (wr : World) : Prop :=
  ∃ k : Nat, k ≤ X.length ∧ vi = .int .i64 (k : Int) ∧ vn = .int .i64 ((thrs ((X.map fl).take k)).length : Int) ∧ Below w.heap.size w wr

set_option maxHeartbeats 4000000 in
set_option maxRecDepth 100000 in
theorem W_FnFlightKeys (w : World) (v : Value) (n : Nat) (hv : RdY w v n) (hm : n ≤ 9223372036854775807) :
    Calls Try.prog 9 #[v] w fun e w' => e = .returned (.bool true) ∧ Below w.heap.size w w' := by
  have HV := Lib.hid hv
  obtain ⟨a, cap, rfl, hcap, hnc, hr⟩ := hv
  clear hr hnc
  by_cases hbig : 1048576 < n
  · go_enter Try.func9, Try.ntmps9
    go_wp2
    go_ret
    exact ⟨rfl, Below.refl _ _⟩
  · go_enter Try.func9, Try.ntmps9
    have T_0 : Hid (Below w.heap.size w w) := Lib.hid (Below.refl _ _)
    go_wp2_with fail
    (with_reducible refine (S_DrawFlightsValid _ _ n HV.out (by omega)).mono ?_)
    rintro e w1 ⟨X, a1, c1, rfl, hX, hx, hb⟩
    have T_1 := Lib.hid (below_trans (T_0.out) hb)
    have z_1 : w.heap.size ≤ w1.heap.size := (by have := hb.size; (try simp at this); omega)
    have r_x_1 := Lib.hid (rdf_mono hx (show w.heap.size ≤ _ by first | omega | (simp; done) | (simp; omega)) (Nat.le_refl _) (Nat.le_refl _))
    clear hb T_0 hx
    by_cases hs : fval (X.map fl) = true
    rotate_left
    · have HS : Hid (fval (X.map fl) = false) := Lib.hid (by simpa using hs)
      clear hs
      go_wp2_with fail
      (with_reducible refine (I_FlightsValid_q _ _ _ _ X false (r_x_1.out) (by omega) (HS.out)).mono ?_)
      rintro e w2 ⟨rfl, hb⟩
      have r_x_2 := Lib.hid (rdf_b (r_x_1.out) hb)
      have T_2 := Lib.hid (below_trans (T_1.out) hb)
      have z_2 : w1.heap.size ≤ w2.heap.size := (by have := hb.size; (try simp at this); omega)
      clear hb r_x_1 T_1
      go_wp2_with fail
      (with_reducible refine (S_FlightsValid_q _ _ _ _ X false (r_x_2.out) (by omega) (HS.out)).mono ?_)
      rintro e w3 ⟨rfl, hb⟩
      have r_x_3 := Lib.hid (rdf_b (r_x_2.out) hb)
      have T_3 := Lib.hid (below_trans (T_2.out) hb)
      have z_3 : w2.heap.size ≤ w3.heap.size := (by have := hb.size; (try simp at this); omega)
      clear hb r_x_2 T_2
      go_wp2_with fail
      (with_reducible refine (S_FlightsValid_q _ _ _ _ X false (r_x_3.out) (by omega) (HS.out)).mono ?_)
      rintro e w4 ⟨rfl, hb⟩
      have r_x_4 := Lib.hid (rdf_b (r_x_3.out) hb)
      have T_4 := Lib.hid (below_trans (T_3.out) hb)
      have z_4 : w3.heap.size ≤ w4.heap.size := (by have := hb.size; (try simp at this); omega)
      clear hb r_x_3 T_3
      go_wp2_with fail
      go_ret
      exact ⟨rfl, (T_4.out)⟩
    have HS := Lib.hid hs
    clear hs
    go_wp2_with fail
    (with_reducible refine (I_FlightsValid_q _ _ _ _ X true (r_x_1.out) (by omega) (HS.out)).mono ?_)
    rintro e w2 ⟨rfl, hb⟩
    have r_x_2 := Lib.hid (rdf_b (r_x_1.out) hb)
    have T_2 := Lib.hid (below_trans (T_1.out) hb)
    have z_2 : w1.heap.size ≤ w2.heap.size := (by have := hb.size; (try simp at this); omega)
    clear hb r_x_1 T_1
    go_wp2_with fail
    (with_reducible refine (S_FlightsValid_q _ _ _ _ X true (r_x_2.out) (by omega) (HS.out)).mono ?_)
    rintro e w3 ⟨rfl, hb⟩
    have r_x_3 := Lib.hid (rdf_b (r_x_2.out) hb)
    have T_3 := Lib.hid (below_trans (T_2.out) hb)
    have z_3 : w2.heap.size ≤ w3.heap.size := (by have := hb.size; (try simp at this); omega)
    clear hb r_x_2 T_2
    go_wp2
    go_loopw [5, 6, 7, 8, 9] (fun vn vi _ _ _ wr => FKHead w3 X vn vi wr) (fun _ i _ _ _ _ => X.length - (intOf i).toNat)
    case atStart => exact ⟨0, Nat.zero_le _, rfl, by simp [thrs], Below.refl _ _⟩
    case round =>
      obtain ⟨k, hk, rfl, rfl, hbel⟩ := hrel
      have HB := Lib.hid hbel
      obtain ⟨n, hn⟩ : ∃ n, (thrs ((X.map fl).take k)).length = n := ⟨_, rfl⟩
      have hn6 : n ≤ 6 := by rw [← hn]; exact thrs_take_fval HS.out k
      rw [hn]
      have HN := Lib.hid hn
      clear hn
      by_cases hlt : k < X.length
      · obtain ⟨a', c', e, hcap, hnc, hc⟩ := rdf_cells (rdf_b ((r_x_3.out)) hbel)
        simp only [Value.slice.injEq, true_and] at e
        obtain ⟨rfl, rfl⟩ := e
        rcases hc with hc | ⟨g9, off, rfl, hg, _, hg8, hc⟩
        · omega
        obtain ⟨e1, e2, e3⟩ := hc k hlt
        have HC9 := Lib.hid hc
        obtain ⟨xa, xc, hx3⟩ := rd_sl (rdf_rd (rdf_b ((r_x_3.out)) hbel) hlt)
        rw [hx3] at e3
        have HT : Hid (thrs ((X.map fl).take (k + 1)) = thrs ((X.map fl).take k) ++ [X[k].2.1] ++ X[k].2.2.1) := Lib.hid (thrs_take_succ hlt)
        have HOI := Lib.hid (owner_in hlt)
        have HNO : Hid (joinOk (X.map fl) 50 X[k].2.1 = false) := Lib.hid (joinOk_false (.inr (.inr (.inr (.inr HOI.out)))))
        have hn7 : n + 1 + X[k].2.2.1.length ≤ 6 := by
          have h := thrs_take_fval HS.out (k + 1)
          rw [HT.out] at h; simp only [List.length_append, List.length_singleton] at h; rw [HN.out] at h; omega
        have HN2 : Hid (((thrs ((X.map fl).take (k + 1))).length : Int) = (n : Int) + 1 + (X[k].2.2.1.length : Int)) := Lib.hid (by
          rw [HT.out]; simp only [List.length_append, List.length_singleton]; rw [HN.out]; omega)
        obtain ⟨p, hp⟩ : ∃ p, X[k].2.2.1.length = p := ⟨_, rfl⟩
        obtain ⟨q, hq⟩ : ∃ q, X[k].2.1 = q := ⟨_, rfl⟩
        have HN3 := Lib.hid hp
        simp only [hp] at e3 hn7
        rw [hq] at e2
        have HQ := Lib.hid hq
        have y1 : IntKind.i64.wrap ((n : Int) + 1) = (n : Int) + 1 := IntWalk.i64_in _ (by omega)
        have y2 : IntKind.i64.wrap ((n : Int) + 1 + (p : Int)) = (n : Int) + 1 + (p : Int) := IntWalk.i64_in _ (by omega)
        clear hc hx3 hbel hp hq
        by_cases h3 : k = 0
        · subst h3
          simp only [Nat.zero_mul, Nat.add_zero] at e1 e2 e3
          go_wp2_with fail
          go_quiet (fail)
          go_wp2_with fail
          (with_reducible refine (I_JoinFlight_no _ _ _ _ X 50 _ (rdf_b ((r_x_3.out)) (below_trans HB.out (drewN_below _ _))) (by omega) (by rw [← HQ.out]; exact HNO.out)).mono ?_)
          rintro e w9 ⟨rfl, hb⟩
          go_wp2_with fail
          go_roundw
          case rel => exact ⟨0 + 1, by omega, by go_num, by rw [HN2.out, HN3.out], below_trans HB.out (below_trans (drewN_below _ _) hb)⟩
          case measure => simp [intOf]; omega
        · obtain ⟨m, rfl⟩ : ∃ m, k = m + 1 := ⟨k - 1, by omega⟩
          have p1 := (HC9.out m (by omega)).1
          obtain ⟨_, _, hlt2⟩ := keysOk_iff.1 (fval_in HS.out).2.1 (m + 1) (by simpa using hlt)
          have hlt3 := hlt2 (by omega)
          simp only [List.getElem_map, Nat.add_sub_cancel] at hlt3
          obtain ⟨x, hx⟩ : ∃ x, X[m + 1].1 = x := ⟨_, rfl⟩
          obtain ⟨y, hy⟩ : ∃ y, X[m].1 = y := ⟨_, rfl⟩
          rw [hx] at e1
          rw [hy] at p1
          replace hlt3 : y < x := by rw [← hx, ← hy]; exact hlt3
          have n3 : decide ((0 : Int) < (m : Int) + 1) = true := decide_eq_true (by omega)
          have n4 : decide (x ≤ y) = false := decide_eq_false (by omega)
          have i1 : (0 : Int) ≤ (m : Int) := by omega
          have i2 : (m : Int) < (X.length : Int) := by omega
          clear h3 hlt2 hlt3 hx hy
          go_wp2_with fail
          go_quiet (fail)
          go_wp2_with fail
          (with_reducible refine (I_JoinFlight_no _ _ _ _ X 50 _ (rdf_b ((r_x_3.out)) (below_trans HB.out (drewN_below _ _))) (by omega) (by rw [← HQ.out]; exact HNO.out)).mono ?_)
          rintro e w9 ⟨rfl, hb⟩
          go_wp2_with fail
          go_roundw
          case rel => exact ⟨(m + 1) + 1, by omega, by go_num, by rw [HN2.out, HN3.out], below_trans HB.out (below_trans (drewN_below _ _) hb)⟩
          case measure => simp [intOf]; omega
      · obtain rfl : k = X.length := by omega
        clear hbel
        have n5 : decide ((n : Int) ≤ 6) = true := decide_eq_true (by omega)
        go_wp2
        go_ret
        exact ⟨rfl, below_trans ((T_3.out)) HB.out⟩
end Go.Proofs.Ytafpnkcdoeicgaa
