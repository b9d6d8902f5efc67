/- Contracts of the functions over groups. -/
import Derived.Test.YtgdhbhgkfcgjdaaLeaf
import Derived.Test.YtgdhbhgkfcgjdaaValue
namespace Go.Proofs.Ytgdhbhgkfcgjdaa
open Go.RowKit

set_option maxHeartbeats 1000000 in
theorem I_GroupSame (w : World) (p0 q0 : Int) (v : Value) (xs : List Int) (u : Value) (ys : List Int) (hr : Rd w v xs) (hs : Rd w u ys) (hl : xs.length ≤ 4294967296) (hl' : ys.length ≤ 4294967296) :
    Calls Try.prog 13 #[.agg #[.int .i64 p0, v], .agg #[.int .i64 q0, u]] w fun e w' => e = .returned (.bool (decide (p0 = q0) && eqB xs ys)) ∧ Below w.heap.size w w' := by
  have HR := Lib.hid hr
  have HS := Lib.hid hs
  obtain ⟨a, cap, rfl, hcap, hnc, hr⟩ := hr
  obtain ⟨b, cap', rfl, hcap', hnc', hs⟩ := hs
  clear hr hnc hs hnc'
  by_cases h0 : p0 = q0
  · subst h0
    have e0 : (decide (p0 = p0) && eqB xs ys) = eqB xs ys := by simp
    rw [e0]; clear e0
    go_enter Try.func13, Try.ntmps13
    go_wp2_with fail
    refine (drew_b (slices_Equal _ _ _ xs ys (rd_alloc (rd_alloc HR.out _) _) (rd_alloc (rd_alloc HS.out _) _) hl hl')).mono ?_
    rintro e w1 ⟨rfl, hb⟩
    have HB := Lib.hid (below_trans (below_alloc _ _) (below_trans (below_alloc _ _) hb))
    clear hb
    go_wp2_with fail
    go_ret
    exact ⟨rfl, HB.out⟩
  · have h0' : ¬ p0 = q0 := h0
    have e0 : (decide (p0 = q0) && eqB xs ys) = false := by simp [h0']
    rw [e0]; clear e0
    go_enter Try.func13, Try.ntmps13
    go_wp2_with fail
    go_ret
    exact ⟨rfl, below_trans (below_alloc _ _) (below_alloc _ _)⟩

set_option maxHeartbeats 1000000 in
theorem S_GroupSame (w : World) (p0 q0 : Int) (v : Value) (xs : List Int) (u : Value) (ys : List Int) (hr : Rd w v xs) (hs : Rd w u ys) (hl : xs.length ≤ 4294967296) (hl' : ys.length ≤ 4294967296) :
    Calls Try.prog 14 #[.agg #[.int .i64 p0, v], .agg #[.int .i64 q0, u]] w fun e w' => e = .returned (.bool (decide (p0 = q0) && eqB xs ys)) ∧ Below w.heap.size w w' := by
  have HR := Lib.hid hr
  have HS := Lib.hid hs
  obtain ⟨a, cap, rfl, hcap, hnc, hr⟩ := hr
  obtain ⟨b, cap', rfl, hcap', hnc', hs⟩ := hs
  clear hr hnc hs hnc'
  by_cases h0 : p0 = q0
  · subst h0
    have e0 : (decide (p0 = p0) && eqB xs ys) = eqB xs ys := by simp
    rw [e0]; clear e0
    go_enter Try.func14, Try.ntmps14
    go_wp2_with fail
    refine (drew_b (S_l2Ints _ _ _ xs ys (rd_alloc (rd_alloc HR.out _) _) (rd_alloc (rd_alloc HS.out _) _) hl hl')).mono ?_
    rintro e w1 ⟨rfl, hb⟩
    have HB := Lib.hid (below_trans (below_alloc _ _) (below_trans (below_alloc _ _) hb))
    clear hb
    go_wp2_with fail
    go_ret
    exact ⟨rfl, HB.out⟩
  · have h0' : ¬ p0 = q0 := h0
    have e0 : (decide (p0 = q0) && eqB xs ys) = false := by simp [h0']
    rw [e0]; clear e0
    go_enter Try.func14, Try.ntmps14
    go_wp2_with fail
    go_ret
    exact ⟨rfl, below_trans (below_alloc _ _) (below_alloc _ _)⟩

/-- Is the group valid? -/
def gval (c : Int) (xs : List Int) : Bool := val c && vt xs && (decide (0 < c) || decide (xs.length = 0))
theorem gval_in {c : Int} {xs : List Int} (h : gval c xs = true) : 0 ≤ c ∧ c ≤ 99 ∧ xs.length ≤ 6 ∧ (c = 0 → xs = []) := by
  unfold gval at h; simp only [Bool.and_eq_true, Bool.or_eq_true, decide_eq_true_eq] at h
  obtain ⟨⟨h1, h2⟩, h3⟩ := h; have h4 := val_in h1; have h5 := vt_len h2
  exact ⟨h4.1, h4.2, h5, fun hc => List.eq_nil_of_length_eq_zero (by omega)⟩

set_option maxHeartbeats 4000000 in
theorem I_GroupValid (w : World) (c : Int) (v : Value) (xs : List Int) (hr : Rd w v xs) (hl : xs.length ≤ 4294967296) :
    Calls Try.prog 15 #[.agg #[.int .i64 c, v]] w fun e w' => e = .returned (.bool (gval c xs)) ∧ Below w.heap.size w w' := by
  have HR := Lib.hid hr
  obtain ⟨a, cap, rfl, hcap, hnc, hr⟩ := hr
  clear hr hnc
  by_cases hv : val c = true
  · by_cases h6 : xs.length ≤ 6
    · by_cases hd : dist xs = true
      · by_cases hc : 0 < c
        · have e0 : gval c xs = true := by simp [gval, hv, vt_dist h6, hd, hc]
          rw [e0]; clear e0
          skip
          go_enter Try.func15, Try.ntmps15
          have T0 := Lib.hid (Below.refl w.heap.size w)
          go_wp2_with fail
          refine (same_b (I_isValue _ c)).mono ?_
          rintro e w1 ⟨rfl, hb⟩
          have D1 : Below w.heap.size w w1 := below_trans (below_alloc _ _) (hb)
          have T1 := Lib.hid (below_trans T0.out D1)
          have z1 : w.heap.size + 1 ≤ w1.heap.size := (by have := hb.size; (try simp at this); omega)
          have c_A0_1 := cell_b (p := ⟨w.heap.size, 0, none⟩) (v := .int .i64 c) (by simp) hb
          have c_A1_1 := cell_b (p := ⟨w.heap.size, 1, none⟩) (v := .slice a xs.length cap) (by simp) hb
          have ac_A0_1 := fun o => cell_b c_A0_1 (below_alloc _ o)
          have ac_A1_1 := fun o => cell_b c_A1_1 (below_alloc _ o)
          clear hb D1 T0
          go_wp2_with fail
          refine (I_distinctThreads _ _ xs (rd_below HR.out T1.out) (by omega)).mono ?_
          rintro e w2 ⟨rfl, hb⟩
          have D2 : Below w1.heap.size w1 w2 := hb
          have c_A0_2 := cell_b c_A0_1 D2
          have c_A1_2 := cell_b c_A1_1 D2
          have T2 := Lib.hid (below_trans T1.out D2)
          have z2 : w1.heap.size ≤ w2.heap.size := (by have := hb.size; (try simp at this); omega)
          have ac_A0_2 := fun o => cell_b c_A0_2 (below_alloc _ o)
          have ac_A1_2 := fun o => cell_b c_A1_2 (below_alloc _ o)
          clear ac_A0_1 ac_A1_1 c_A0_1 c_A1_1 hb D2 T1
          go_wp2_with fail
          all_goals go_ret
          all_goals exact ⟨by first | rfl | (have q : xs ≠ [] := (fun h0 => by rw [h0] at hz'; exact absurd hz' (Nat.lt_irrefl 0)); first | (simp [q]; done) | (simp [q]; omega) | (simp_all; done)) | (simp; done) | (simp; omega) | simp_all, T2.out⟩
        · have hc' : c ≤ 0 := by omega
          clear hc
          by_cases hz : xs.length = 0
          · have e0 : gval c xs = true := by simp [gval, hv, vt_dist h6, hd, hz]
            rw [e0]; clear e0
            obtain rfl := List.eq_nil_of_length_eq_zero hz
            go_enter Try.func15, Try.ntmps15
            have T0 := Lib.hid (Below.refl w.heap.size w)
            go_wp2_with fail
            refine (same_b (I_isValue _ c)).mono ?_
            rintro e w1 ⟨rfl, hb⟩
            have D1 : Below w.heap.size w w1 := below_trans (below_alloc _ _) (hb)
            have T1 := Lib.hid (below_trans T0.out D1)
            have z1 : w.heap.size + 1 ≤ w1.heap.size := (by have := hb.size; (try simp at this); omega)
            have c_A0_1 := cell_b (p := ⟨w.heap.size, 0, none⟩) (v := .int .i64 c) (by simp) hb
            have c_A1_1 := cell_b (p := ⟨w.heap.size, 1, none⟩) (v := .slice a 0 cap) (by simp) hb
            have ac_A0_1 := fun o => cell_b c_A0_1 (below_alloc _ o)
            have ac_A1_1 := fun o => cell_b c_A1_1 (below_alloc _ o)
            clear hb D1 T0
            go_wp2_with fail
            refine (I_distinctThreads _ _ [] (rd_below HR.out T1.out) (by omega)).mono ?_
            rintro e w2 ⟨rfl, hb⟩
            have D2 : Below w1.heap.size w1 w2 := hb
            have c_A0_2 := cell_b c_A0_1 D2
            have c_A1_2 := cell_b c_A1_1 D2
            have T2 := Lib.hid (below_trans T1.out D2)
            have z2 : w1.heap.size ≤ w2.heap.size := (by have := hb.size; (try simp at this); omega)
            have ac_A0_2 := fun o => cell_b c_A0_2 (below_alloc _ o)
            have ac_A1_2 := fun o => cell_b c_A1_2 (below_alloc _ o)
            clear ac_A0_1 ac_A1_1 c_A0_1 c_A1_1 hb D2 T1
            go_wp2_with fail
            all_goals go_ret
            all_goals exact ⟨by first | rfl | (have q : [] ≠ [] := (fun h0 => by rw [h0] at hz'; exact absurd hz' (Nat.lt_irrefl 0)); first | (simp [q]; done) | (simp [q]; omega) | (simp_all; done)) | (simp; done) | (simp; omega) | simp_all, T2.out⟩
          · have hz' : 0 < xs.length := by omega
            clear hz
            have e0 : gval c xs = false := by simp [gval, hv, vt_dist h6, hd]; exact ⟨hc', fun h0 => by simp [h0] at hz'⟩
            rw [e0]; clear e0
            skip
            go_enter Try.func15, Try.ntmps15
            have T0 := Lib.hid (Below.refl w.heap.size w)
            go_wp2_with fail
            refine (same_b (I_isValue _ c)).mono ?_
            rintro e w1 ⟨rfl, hb⟩
            have D1 : Below w.heap.size w w1 := below_trans (below_alloc _ _) (hb)
            have T1 := Lib.hid (below_trans T0.out D1)
            have z1 : w.heap.size + 1 ≤ w1.heap.size := (by have := hb.size; (try simp at this); omega)
            have c_A0_1 := cell_b (p := ⟨w.heap.size, 0, none⟩) (v := .int .i64 c) (by simp) hb
            have c_A1_1 := cell_b (p := ⟨w.heap.size, 1, none⟩) (v := .slice a xs.length cap) (by simp) hb
            have ac_A0_1 := fun o => cell_b c_A0_1 (below_alloc _ o)
            have ac_A1_1 := fun o => cell_b c_A1_1 (below_alloc _ o)
            clear hb D1 T0
            go_wp2_with fail
            refine (I_distinctThreads _ _ xs (rd_below HR.out T1.out) (by omega)).mono ?_
            rintro e w2 ⟨rfl, hb⟩
            have D2 : Below w1.heap.size w1 w2 := hb
            have c_A0_2 := cell_b c_A0_1 D2
            have c_A1_2 := cell_b c_A1_1 D2
            have T2 := Lib.hid (below_trans T1.out D2)
            have z2 : w1.heap.size ≤ w2.heap.size := (by have := hb.size; (try simp at this); omega)
            have ac_A0_2 := fun o => cell_b c_A0_2 (below_alloc _ o)
            have ac_A1_2 := fun o => cell_b c_A1_2 (below_alloc _ o)
            clear ac_A0_1 ac_A1_1 c_A0_1 c_A1_1 hb D2 T1
            go_wp2_with fail
            all_goals go_ret
            all_goals exact ⟨by first | rfl | (have q : xs ≠ [] := (fun h0 => by rw [h0] at hz'; exact absurd hz' (Nat.lt_irrefl 0)); first | (simp [q]; done) | (simp [q]; omega) | (simp_all; done)) | (simp; done) | (simp; omega) | simp_all, T2.out⟩
      · have hd' : dist xs = false := by simpa using hd
        clear hd
        have e0 : gval c xs = false := by simp [gval, hv, vt_bad hd']
        rw [e0]; clear e0
        skip
        go_enter Try.func15, Try.ntmps15
        have T0 := Lib.hid (Below.refl w.heap.size w)
        go_wp2_with fail
        refine (same_b (I_isValue _ c)).mono ?_
        rintro e w1 ⟨rfl, hb⟩
        have D1 : Below w.heap.size w w1 := below_trans (below_alloc _ _) (hb)
        have T1 := Lib.hid (below_trans T0.out D1)
        have z1 : w.heap.size + 1 ≤ w1.heap.size := (by have := hb.size; (try simp at this); omega)
        have c_A0_1 := cell_b (p := ⟨w.heap.size, 0, none⟩) (v := .int .i64 c) (by simp) hb
        have c_A1_1 := cell_b (p := ⟨w.heap.size, 1, none⟩) (v := .slice a xs.length cap) (by simp) hb
        have ac_A0_1 := fun o => cell_b c_A0_1 (below_alloc _ o)
        have ac_A1_1 := fun o => cell_b c_A1_1 (below_alloc _ o)
        clear hb D1 T0
        go_wp2_with fail
        refine (I_distinctThreads _ _ xs (rd_below HR.out T1.out) (by omega)).mono ?_
        rintro e w2 ⟨rfl, hb⟩
        have D2 : Below w1.heap.size w1 w2 := hb
        have c_A0_2 := cell_b c_A0_1 D2
        have c_A1_2 := cell_b c_A1_1 D2
        have T2 := Lib.hid (below_trans T1.out D2)
        have z2 : w1.heap.size ≤ w2.heap.size := (by have := hb.size; (try simp at this); omega)
        have ac_A0_2 := fun o => cell_b c_A0_2 (below_alloc _ o)
        have ac_A1_2 := fun o => cell_b c_A1_2 (below_alloc _ o)
        clear ac_A0_1 ac_A1_1 c_A0_1 c_A1_1 hb D2 T1
        go_wp2_with fail
        all_goals go_ret
        all_goals exact ⟨by first | rfl | (have q : xs ≠ [] := (fun h0 => by rw [h0] at hz'; exact absurd hz' (Nat.lt_irrefl 0)); first | (simp [q]; done) | (simp [q]; omega) | (simp_all; done)) | (simp; done) | (simp; omega) | simp_all, T2.out⟩
    · have h6' : 6 < xs.length := by omega
      clear h6
      have e0 : gval c xs = false := by simp [gval, hv, vt_long h6']
      rw [e0]; clear e0
      skip
      go_enter Try.func15, Try.ntmps15
      have T0 := Lib.hid (Below.refl w.heap.size w)
      go_wp2_with fail
      refine (same_b (I_isValue _ c)).mono ?_
      rintro e w1 ⟨rfl, hb⟩
      have D1 : Below w.heap.size w w1 := below_trans (below_alloc _ _) (hb)
      have T1 := Lib.hid (below_trans T0.out D1)
      have z1 : w.heap.size + 1 ≤ w1.heap.size := (by have := hb.size; (try simp at this); omega)
      have c_A0_1 := cell_b (p := ⟨w.heap.size, 0, none⟩) (v := .int .i64 c) (by simp) hb
      have c_A1_1 := cell_b (p := ⟨w.heap.size, 1, none⟩) (v := .slice a xs.length cap) (by simp) hb
      have ac_A0_1 := fun o => cell_b c_A0_1 (below_alloc _ o)
      have ac_A1_1 := fun o => cell_b c_A1_1 (below_alloc _ o)
      clear hb D1 T0
      go_wp2_with fail
      all_goals go_ret
      all_goals exact ⟨by first | rfl | (have q : xs ≠ [] := (fun h0 => by rw [h0] at hz'; exact absurd hz' (Nat.lt_irrefl 0)); first | (simp [q]; done) | (simp [q]; omega) | (simp_all; done)) | (simp; done) | (simp; omega) | simp_all, T1.out⟩
  · have hv' : val c = false := by simpa using hv
    clear hv
    have e0 : gval c xs = false := by simp [gval, hv']
    rw [e0]; clear e0
    skip
    go_enter Try.func15, Try.ntmps15
    have T0 := Lib.hid (Below.refl w.heap.size w)
    go_wp2_with fail
    refine (same_b (I_isValue _ c)).mono ?_
    rintro e w1 ⟨rfl, hb⟩
    have D1 : Below w.heap.size w w1 := below_trans (below_alloc _ _) (hb)
    have T1 := Lib.hid (below_trans T0.out D1)
    have z1 : w.heap.size + 1 ≤ w1.heap.size := (by have := hb.size; (try simp at this); omega)
    have c_A0_1 := cell_b (p := ⟨w.heap.size, 0, none⟩) (v := .int .i64 c) (by simp) hb
    have c_A1_1 := cell_b (p := ⟨w.heap.size, 1, none⟩) (v := .slice a xs.length cap) (by simp) hb
    have ac_A0_1 := fun o => cell_b c_A0_1 (below_alloc _ o)
    have ac_A1_1 := fun o => cell_b c_A1_1 (below_alloc _ o)
    clear hb D1 T0
    go_wp2_with fail
    all_goals go_ret
    all_goals exact ⟨by first | rfl | (have q : xs ≠ [] := (fun h0 => by rw [h0] at hz'; exact absurd hz' (Nat.lt_irrefl 0)); first | (simp [q]; done) | (simp [q]; omega) | (simp_all; done)) | (simp; done) | (simp; omega) | simp_all, T1.out⟩

set_option maxHeartbeats 4000000 in
theorem S_GroupValid (w : World) (c : Int) (v : Value) (xs : List Int) (hr : Rd w v xs) (hl : xs.length ≤ 4294967296) :
    Calls Try.prog 16 #[.agg #[.int .i64 c, v]] w fun e w' => e = .returned (.bool (gval c xs)) ∧ Below w.heap.size w w' := by
  have HR := Lib.hid hr
  obtain ⟨a, cap, rfl, hcap, hnc, hr⟩ := hr
  clear hr hnc
  by_cases hv : val c = true
  · by_cases hd : vt xs = true
    · by_cases hc : 0 < c
      · have e0 : gval c xs = true := by simp [gval, hv, hd, hc]
        rw [e0]; clear e0
        skip
        go_enter Try.func16, Try.ntmps16
        have T0 := Lib.hid (Below.refl w.heap.size w)
        go_wp2_with fail
        refine (same_b (S_l2Value _ c)).mono ?_
        rintro e w1 ⟨rfl, hb⟩
        have D1 : Below w.heap.size w w1 := below_trans (below_alloc _ _) (hb)
        have T1 := Lib.hid (below_trans T0.out D1)
        have z1 : w.heap.size + 1 ≤ w1.heap.size := (by have := hb.size; (try simp at this); omega)
        have c_A0_1 := cell_b (p := ⟨w.heap.size, 0, none⟩) (v := .int .i64 c) (by simp) hb
        have c_A1_1 := cell_b (p := ⟨w.heap.size, 1, none⟩) (v := .slice a xs.length cap) (by simp) hb
        have ac_A0_1 := fun o => cell_b c_A0_1 (below_alloc _ o)
        have ac_A1_1 := fun o => cell_b c_A1_1 (below_alloc _ o)
        clear hb D1 T0
        go_wp2_with fail
        refine (drew_b (S_l2Waits _ _ xs (rd_below HR.out T1.out) (by omega))).mono ?_
        rintro e w2 ⟨rfl, hb⟩
        have D2 : Below w1.heap.size w1 w2 := hb
        have c_A0_2 := cell_b c_A0_1 D2
        have c_A1_2 := cell_b c_A1_1 D2
        have T2 := Lib.hid (below_trans T1.out D2)
        have z2 : w1.heap.size ≤ w2.heap.size := (by have := hb.size; (try simp at this); omega)
        have ac_A0_2 := fun o => cell_b c_A0_2 (below_alloc _ o)
        have ac_A1_2 := fun o => cell_b c_A1_2 (below_alloc _ o)
        clear ac_A0_1 ac_A1_1 c_A0_1 c_A1_1 hb D2 T1
        go_wp2_with fail
        all_goals go_ret
        all_goals exact ⟨by first | rfl | (have q : xs ≠ [] := (fun h0 => by rw [h0] at hz'; exact absurd hz' (Nat.lt_irrefl 0)); first | (simp [q]; done) | (simp [q]; omega) | (simp_all; done)) | (simp; done) | (simp; omega) | simp_all, T2.out⟩
      · have hc' : c ≤ 0 := by omega
        clear hc
        by_cases hz : xs.length = 0
        · have e0 : gval c xs = true := by simp [gval, hv, hd, hz]
          rw [e0]; clear e0
          obtain rfl := List.eq_nil_of_length_eq_zero hz
          go_enter Try.func16, Try.ntmps16
          have T0 := Lib.hid (Below.refl w.heap.size w)
          go_wp2_with fail
          refine (same_b (S_l2Value _ c)).mono ?_
          rintro e w1 ⟨rfl, hb⟩
          have D1 : Below w.heap.size w w1 := below_trans (below_alloc _ _) (hb)
          have T1 := Lib.hid (below_trans T0.out D1)
          have z1 : w.heap.size + 1 ≤ w1.heap.size := (by have := hb.size; (try simp at this); omega)
          have c_A0_1 := cell_b (p := ⟨w.heap.size, 0, none⟩) (v := .int .i64 c) (by simp) hb
          have c_A1_1 := cell_b (p := ⟨w.heap.size, 1, none⟩) (v := .slice a 0 cap) (by simp) hb
          have ac_A0_1 := fun o => cell_b c_A0_1 (below_alloc _ o)
          have ac_A1_1 := fun o => cell_b c_A1_1 (below_alloc _ o)
          clear hb D1 T0
          go_wp2_with fail
          refine (drew_b (S_l2Waits _ _ [] (rd_below HR.out T1.out) (by omega))).mono ?_
          rintro e w2 ⟨rfl, hb⟩
          have D2 : Below w1.heap.size w1 w2 := hb
          have c_A0_2 := cell_b c_A0_1 D2
          have c_A1_2 := cell_b c_A1_1 D2
          have T2 := Lib.hid (below_trans T1.out D2)
          have z2 : w1.heap.size ≤ w2.heap.size := (by have := hb.size; (try simp at this); omega)
          have ac_A0_2 := fun o => cell_b c_A0_2 (below_alloc _ o)
          have ac_A1_2 := fun o => cell_b c_A1_2 (below_alloc _ o)
          clear ac_A0_1 ac_A1_1 c_A0_1 c_A1_1 hb D2 T1
          go_wp2_with fail
          all_goals go_ret
          all_goals exact ⟨by first | rfl | (have q : [] ≠ [] := (fun h0 => by rw [h0] at hz'; exact absurd hz' (Nat.lt_irrefl 0)); first | (simp [q]; done) | (simp [q]; omega) | (simp_all; done)) | (simp; done) | (simp; omega) | simp_all, T2.out⟩
        · have hz' : 0 < xs.length := by omega
          clear hz
          have e0 : gval c xs = false := by simp [gval, hv, hd]; exact ⟨hc', fun h0 => by simp [h0] at hz'⟩
          rw [e0]; clear e0
          skip
          go_enter Try.func16, Try.ntmps16
          have T0 := Lib.hid (Below.refl w.heap.size w)
          go_wp2_with fail
          refine (same_b (S_l2Value _ c)).mono ?_
          rintro e w1 ⟨rfl, hb⟩
          have D1 : Below w.heap.size w w1 := below_trans (below_alloc _ _) (hb)
          have T1 := Lib.hid (below_trans T0.out D1)
          have z1 : w.heap.size + 1 ≤ w1.heap.size := (by have := hb.size; (try simp at this); omega)
          have c_A0_1 := cell_b (p := ⟨w.heap.size, 0, none⟩) (v := .int .i64 c) (by simp) hb
          have c_A1_1 := cell_b (p := ⟨w.heap.size, 1, none⟩) (v := .slice a xs.length cap) (by simp) hb
          have ac_A0_1 := fun o => cell_b c_A0_1 (below_alloc _ o)
          have ac_A1_1 := fun o => cell_b c_A1_1 (below_alloc _ o)
          clear hb D1 T0
          go_wp2_with fail
          refine (drew_b (S_l2Waits _ _ xs (rd_below HR.out T1.out) (by omega))).mono ?_
          rintro e w2 ⟨rfl, hb⟩
          have D2 : Below w1.heap.size w1 w2 := hb
          have c_A0_2 := cell_b c_A0_1 D2
          have c_A1_2 := cell_b c_A1_1 D2
          have T2 := Lib.hid (below_trans T1.out D2)
          have z2 : w1.heap.size ≤ w2.heap.size := (by have := hb.size; (try simp at this); omega)
          have ac_A0_2 := fun o => cell_b c_A0_2 (below_alloc _ o)
          have ac_A1_2 := fun o => cell_b c_A1_2 (below_alloc _ o)
          clear ac_A0_1 ac_A1_1 c_A0_1 c_A1_1 hb D2 T1
          go_wp2_with fail
          all_goals go_ret
          all_goals exact ⟨by first | rfl | (have q : xs ≠ [] := (fun h0 => by rw [h0] at hz'; exact absurd hz' (Nat.lt_irrefl 0)); first | (simp [q]; done) | (simp [q]; omega) | (simp_all; done)) | (simp; done) | (simp; omega) | simp_all, T2.out⟩
    · have hd' : vt xs = false := by simpa using hd
      clear hd
      have e0 : gval c xs = false := by simp [gval, hv, hd']
      rw [e0]; clear e0
      skip
      go_enter Try.func16, Try.ntmps16
      have T0 := Lib.hid (Below.refl w.heap.size w)
      go_wp2_with fail
      refine (same_b (S_l2Value _ c)).mono ?_
      rintro e w1 ⟨rfl, hb⟩
      have D1 : Below w.heap.size w w1 := below_trans (below_alloc _ _) (hb)
      have T1 := Lib.hid (below_trans T0.out D1)
      have z1 : w.heap.size + 1 ≤ w1.heap.size := (by have := hb.size; (try simp at this); omega)
      have c_A0_1 := cell_b (p := ⟨w.heap.size, 0, none⟩) (v := .int .i64 c) (by simp) hb
      have c_A1_1 := cell_b (p := ⟨w.heap.size, 1, none⟩) (v := .slice a xs.length cap) (by simp) hb
      have ac_A0_1 := fun o => cell_b c_A0_1 (below_alloc _ o)
      have ac_A1_1 := fun o => cell_b c_A1_1 (below_alloc _ o)
      clear hb D1 T0
      go_wp2_with fail
      refine (drew_b (S_l2Waits _ _ xs (rd_below HR.out T1.out) (by omega))).mono ?_
      rintro e w2 ⟨rfl, hb⟩
      have D2 : Below w1.heap.size w1 w2 := hb
      have c_A0_2 := cell_b c_A0_1 D2
      have c_A1_2 := cell_b c_A1_1 D2
      have T2 := Lib.hid (below_trans T1.out D2)
      have z2 : w1.heap.size ≤ w2.heap.size := (by have := hb.size; (try simp at this); omega)
      have ac_A0_2 := fun o => cell_b c_A0_2 (below_alloc _ o)
      have ac_A1_2 := fun o => cell_b c_A1_2 (below_alloc _ o)
      clear ac_A0_1 ac_A1_1 c_A0_1 c_A1_1 hb D2 T1
      go_wp2_with fail
      all_goals go_ret
      all_goals exact ⟨by first | rfl | (have q : xs ≠ [] := (fun h0 => by rw [h0] at hz'; exact absurd hz' (Nat.lt_irrefl 0)); first | (simp [q]; done) | (simp [q]; omega) | (simp_all; done)) | (simp; done) | (simp; omega) | simp_all, T2.out⟩
  · have hv' : val c = false := by simpa using hv
    clear hv
    have e0 : gval c xs = false := by simp [gval, hv']
    rw [e0]; clear e0
    skip
    go_enter Try.func16, Try.ntmps16
    have T0 := Lib.hid (Below.refl w.heap.size w)
    go_wp2_with fail
    refine (same_b (S_l2Value _ c)).mono ?_
    rintro e w1 ⟨rfl, hb⟩
    have D1 : Below w.heap.size w w1 := below_trans (below_alloc _ _) (hb)
    have T1 := Lib.hid (below_trans T0.out D1)
    have z1 : w.heap.size + 1 ≤ w1.heap.size := (by have := hb.size; (try simp at this); omega)
    have c_A0_1 := cell_b (p := ⟨w.heap.size, 0, none⟩) (v := .int .i64 c) (by simp) hb
    have c_A1_1 := cell_b (p := ⟨w.heap.size, 1, none⟩) (v := .slice a xs.length cap) (by simp) hb
    have ac_A0_1 := fun o => cell_b c_A0_1 (below_alloc _ o)
    have ac_A1_1 := fun o => cell_b c_A1_1 (below_alloc _ o)
    clear hb D1 T0
    go_wp2_with fail
    all_goals go_ret
    all_goals exact ⟨by first | rfl | (have q : xs ≠ [] := (fun h0 => by rw [h0] at hz'; exact absurd hz' (Nat.lt_irrefl 0)); first | (simp [q]; done) | (simp [q]; omega) | (simp_all; done)) | (simp; done) | (simp; omega) | simp_all, T1.out⟩
end Go.Proofs.Ytgdhbhgkfcgjdaa
