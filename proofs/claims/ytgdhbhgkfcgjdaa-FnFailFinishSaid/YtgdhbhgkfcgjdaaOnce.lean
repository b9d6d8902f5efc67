/- Contracts of the functions over onces. -/
import Derived.Test.YtgdhbhgkfcgjdaaLeaf
import Derived.Test.YtgdhbhgkfcgjdaaValue
namespace Go.Proofs.Ytgdhbhgkfcgjdaa
open Go.RowKit

set_option maxHeartbeats 1000000 in
theorem I_OnceSame (w : World) (p0 p1 p2 q0 q1 q2 : Int) (v : Value) (xs : List Int) (u : Value) (ys : List Int) (hr : Rd w v xs) (hs : Rd w u ys) (hl : xs.length ≤ 4294967296) (hl' : ys.length ≤ 4294967296) :
    Calls Try.prog 25 #[.agg #[.int .i64 p0, .int .i64 p1, .int .i64 p2, v], .agg #[.int .i64 q0, .int .i64 q1, .int .i64 q2, u]] w fun e w' => e = .returned (.bool (decide (p0 = q0) && decide (p1 = q1) && decide (p2 = q2) && eqB xs ys)) ∧ Below w.heap.size w w' := by
  have HR := Lib.hid hr
  have HS := Lib.hid hs
  obtain ⟨a, cap, rfl, hcap, hnc, hr⟩ := hr
  obtain ⟨b, cap', rfl, hcap', hnc', hs⟩ := hs
  clear hr hnc hs hnc'
  by_cases h0 : p0 = q0
  · subst h0
    by_cases h1 : p1 = q1
    · subst h1
      by_cases h2 : p2 = q2
      · subst h2
        have e0 : (decide (p0 = p0) && decide (p1 = p1) && decide (p2 = p2) && eqB xs ys) = eqB xs ys := by simp
        rw [e0]; clear e0
        go_enter Try.func25, Try.ntmps25
        go_wp2_with fail
        refine (drew_b (slices_Equal _ _ _ xs ys (rd_alloc (rd_alloc HR.out _) _) (rd_alloc (rd_alloc HS.out _) _) hl hl')).mono ?_
        rintro e w1 ⟨rfl, hb⟩
        have HB := Lib.hid (below_trans (below_alloc _ _) (below_trans (below_alloc _ _) hb))
        clear hb
        go_wp2_with fail
        go_ret
        exact ⟨rfl, HB.out⟩
      · have h2' : ¬ p2 = q2 := h2
        have e0 : (decide (p0 = p0) && decide (p1 = p1) && decide (p2 = q2) && eqB xs ys) = false := by simp [h2']
        rw [e0]; clear e0
        go_enter Try.func25, Try.ntmps25
        go_wp2_with fail
        go_ret
        exact ⟨rfl, below_trans (below_alloc _ _) (below_alloc _ _)⟩
    · have h1' : ¬ p1 = q1 := h1
      have e0 : (decide (p0 = p0) && decide (p1 = q1) && decide (p2 = q2) && eqB xs ys) = false := by simp [h1']
      rw [e0]; clear e0
      go_enter Try.func25, Try.ntmps25
      go_wp2_with fail
      go_ret
      exact ⟨rfl, below_trans (below_alloc _ _) (below_alloc _ _)⟩
  · have h0' : ¬ p0 = q0 := h0
    have e0 : (decide (p0 = q0) && decide (p1 = q1) && decide (p2 = q2) && eqB xs ys) = false := by simp [h0']
    rw [e0]; clear e0
    go_enter Try.func25, Try.ntmps25
    go_wp2_with fail
    go_ret
    exact ⟨rfl, below_trans (below_alloc _ _) (below_alloc _ _)⟩

set_option maxHeartbeats 1000000 in
theorem S_OnceSame (w : World) (p0 p1 p2 q0 q1 q2 : Int) (v : Value) (xs : List Int) (u : Value) (ys : List Int) (hr : Rd w v xs) (hs : Rd w u ys) (hl : xs.length ≤ 4294967296) (hl' : ys.length ≤ 4294967296) :
    Calls Try.prog 26 #[.agg #[.int .i64 p0, .int .i64 p1, .int .i64 p2, v], .agg #[.int .i64 q0, .int .i64 q1, .int .i64 q2, u]] w fun e w' => e = .returned (.bool (decide (p0 = q0) && decide (p1 = q1) && decide (p2 = q2) && eqB xs ys)) ∧ Below w.heap.size w w' := by
  have HR := Lib.hid hr
  have HS := Lib.hid hs
  obtain ⟨a, cap, rfl, hcap, hnc, hr⟩ := hr
  obtain ⟨b, cap', rfl, hcap', hnc', hs⟩ := hs
  clear hr hnc hs hnc'
  by_cases h0 : p0 = q0
  · subst h0
    by_cases h1 : p1 = q1
    · subst h1
      by_cases h2 : p2 = q2
      · subst h2
        have e0 : (decide (p0 = p0) && decide (p1 = p1) && decide (p2 = p2) && eqB xs ys) = eqB xs ys := by simp
        rw [e0]; clear e0
        go_enter Try.func26, Try.ntmps26
        go_wp2_with fail
        refine (drew_b (S_l2Ints _ _ _ xs ys (rd_alloc (rd_alloc HR.out _) _) (rd_alloc (rd_alloc HS.out _) _) hl hl')).mono ?_
        rintro e w1 ⟨rfl, hb⟩
        have HB := Lib.hid (below_trans (below_alloc _ _) (below_trans (below_alloc _ _) hb))
        clear hb
        go_wp2_with fail
        go_ret
        exact ⟨rfl, HB.out⟩
      · have h2' : ¬ p2 = q2 := h2
        have e0 : (decide (p0 = p0) && decide (p1 = p1) && decide (p2 = q2) && eqB xs ys) = false := by simp [h2']
        rw [e0]; clear e0
        go_enter Try.func26, Try.ntmps26
        go_wp2_with fail
        go_ret
        exact ⟨rfl, below_trans (below_alloc _ _) (below_alloc _ _)⟩
    · have h1' : ¬ p1 = q1 := h1
      have e0 : (decide (p0 = p0) && decide (p1 = q1) && decide (p2 = q2) && eqB xs ys) = false := by simp [h1']
      rw [e0]; clear e0
      go_enter Try.func26, Try.ntmps26
      go_wp2_with fail
      go_ret
      exact ⟨rfl, below_trans (below_alloc _ _) (below_alloc _ _)⟩
  · have h0' : ¬ p0 = q0 := h0
    have e0 : (decide (p0 = q0) && decide (p1 = q1) && decide (p2 = q2) && eqB xs ys) = false := by simp [h0']
    rw [e0]; clear e0
    go_enter Try.func26, Try.ntmps26
    go_wp2_with fail
    go_ret
    exact ⟨rfl, below_trans (below_alloc _ _) (below_alloc _ _)⟩

/-- Is the once valid? -/
def oval (s o k : Int) (xs : List Int) : Bool :=
  if s = 0 then decide (o = 0) && decide (k = 0) && decide (xs.length = 0)
  else if s = 1 then thr o && decide (k = 0) && vt xs && !hasB xs o
  else if s = 2 then thr o && val k && decide (xs.length = 0)
  else false
theorem oval_len {s o k : Int} {xs : List Int} (h : oval s o k xs = true) : xs.length ≤ 6 := by
  unfold oval at h
  split at h
  · simp at h; simp [h]
  · split at h
    · simp only [Bool.and_eq_true] at h; exact vt_len h.1.2
    · split at h
      · simp at h; simp [h]
      · cases h

set_option maxHeartbeats 4000000 in
theorem I_OnceValid (w : World) (s o k : Int) (v : Value) (xs : List Int) (hr : Rd w v xs) (hl : xs.length ≤ 4294967296) :
    Calls Try.prog 27 #[.agg #[.int .i64 s, .int .i64 o, .int .i64 k, v]] w fun e w' => e = .returned (.bool (oval s o k xs)) ∧ Below w.heap.size w w' := by
  have HR := Lib.hid hr
  obtain ⟨a, cap, rfl, hcap, hnc, hr⟩ := hr
  clear hr hnc
  by_cases h0 : s = 0
  · subst h0
    by_cases ho : o = 0
    · by_cases hk : k = 0
      · by_cases hz : xs.length = 0
        · have e0 : oval 0 o k xs = true := by simp [oval, ho, hk, hz]
          rw [e0]; clear e0
          obtain rfl := List.eq_nil_of_length_eq_zero hz
          subst ho
          subst hk
          go_enter Try.func27, Try.ntmps27
          have T0 := Lib.hid (Below.refl w.heap.size w)
          go_wp2_with fail
          all_goals go_ret
          all_goals exact ⟨by first | rfl | (have q : [] ≠ [] := (fun h0 => by rw [h0] at hz'; exact absurd hz' (Nat.lt_irrefl 0)); first | (simp [q]; done) | (simp [q]; omega) | (simp_all; done)) | (simp; done) | (simp; omega) | simp_all, (below_trans T0.out (below_alloc _ _))⟩
        · have hz' : ¬ xs.length = 0 := by omega
          clear hz
          have e0 : oval 0 o k xs = false := by simp [oval, ho, hk]; simpa using hz'
          rw [e0]; clear e0
          skip
          subst ho
          subst hk
          go_enter Try.func27, Try.ntmps27
          have T0 := Lib.hid (Below.refl w.heap.size w)
          go_wp2_with fail
          all_goals go_ret
          all_goals exact ⟨by first | rfl | (have q : xs ≠ [] := (fun h0 => by rw [h0] at hz'; exact absurd hz' (Nat.lt_irrefl 0)); first | (simp [q]; done) | (simp [q]; omega) | (simp_all; done)) | (simp; done) | (simp; omega) | simp_all, (below_trans T0.out (below_alloc _ _))⟩
      · have hk' : ¬ k = 0 := by omega
        clear hk
        have e0 : oval 0 o k xs = false := by simp [oval, hk']
        rw [e0]; clear e0
        skip
        go_enter Try.func27, Try.ntmps27
        have T0 := Lib.hid (Below.refl w.heap.size w)
        go_wp2_with fail
        all_goals go_ret
        all_goals exact ⟨by first | rfl | (have q : xs ≠ [] := (fun h0 => by rw [h0] at hz'; exact absurd hz' (Nat.lt_irrefl 0)); first | (simp [q]; done) | (simp [q]; omega) | (simp_all; done)) | (simp; done) | (simp; omega) | simp_all, (below_trans T0.out (below_alloc _ _))⟩
    · have ho' : ¬ o = 0 := by omega
      clear ho
      have e0 : oval 0 o k xs = false := by simp [oval, ho']
      rw [e0]; clear e0
      skip
      go_enter Try.func27, Try.ntmps27
      have T0 := Lib.hid (Below.refl w.heap.size w)
      go_wp2_with fail
      all_goals go_ret
      all_goals exact ⟨by first | rfl | (have q : xs ≠ [] := (fun h0 => by rw [h0] at hz'; exact absurd hz' (Nat.lt_irrefl 0)); first | (simp [q]; done) | (simp [q]; omega) | (simp_all; done)) | (simp; done) | (simp; omega) | simp_all, (below_trans T0.out (below_alloc _ _))⟩
  by_cases h1 : s = 1
  · subst h1
    by_cases ht : thr o = true
    · by_cases hk : k = 0
      · by_cases h6 : xs.length ≤ 6
        · by_cases hd : dist xs = true
          · by_cases hh : hasB xs o = true
            · have e0 : oval 1 o k xs = false := by simp [oval, ht, hk, vt_dist h6, hd, hh]
              rw [e0]; clear e0
              skip
              subst hk
              have hat : 0 ≤ atF xs o := by have := hasB_at xs o; rw [hh] at this; simpa using this
              go_enter Try.func27, Try.ntmps27
              have T0 := Lib.hid (Below.refl w.heap.size w)
              go_wp2_with fail
              refine (same_b (I_isThread _ o)).mono ?_
              rintro e w1 ⟨rfl, hb⟩
              have D1 : Below w.heap.size w w1 := below_trans (below_alloc _ _) (hb)
              have T1 := Lib.hid (below_trans T0.out D1)
              have z1 : w.heap.size + 1 ≤ w1.heap.size := (by have := hb.size; (try simp at this); omega)
              have c_A0_1 := cell_b (p := ⟨w.heap.size, 0, none⟩) (v := .int .i64 1) (by simp) hb
              have c_A1_1 := cell_b (p := ⟨w.heap.size, 1, none⟩) (v := .int .i64 o) (by simp) hb
              have c_A2_1 := cell_b (p := ⟨w.heap.size, 2, none⟩) (v := .int .i64 0) (by simp) hb
              have c_A3_1 := cell_b (p := ⟨w.heap.size, 3, none⟩) (v := .slice a xs.length cap) (by simp) hb
              have ac_A0_1 := fun o => cell_b c_A0_1 (below_alloc _ o)
              have ac_A1_1 := fun o => cell_b c_A1_1 (below_alloc _ o)
              have ac_A2_1 := fun o => cell_b c_A2_1 (below_alloc _ o)
              have ac_A3_1 := fun o => cell_b c_A3_1 (below_alloc _ o)
              clear hb D1 T0
              go_wp2_with fail
              refine (I_distinctThreads _ _ xs (rd_below HR.out T1.out) (by omega)).mono ?_
              rintro e w2 ⟨rfl, hb⟩
              have D2 : Below w1.heap.size w1 w2 := hb
              have c_A0_2 := cell_b c_A0_1 D2
              have c_A1_2 := cell_b c_A1_1 D2
              have c_A2_2 := cell_b c_A2_1 D2
              have c_A3_2 := cell_b c_A3_1 D2
              have T2 := Lib.hid (below_trans T1.out D2)
              have z2 : w1.heap.size ≤ w2.heap.size := (by have := hb.size; (try simp at this); omega)
              have ac_A0_2 := fun o => cell_b c_A0_2 (below_alloc _ o)
              have ac_A1_2 := fun o => cell_b c_A1_2 (below_alloc _ o)
              have ac_A2_2 := fun o => cell_b c_A2_2 (below_alloc _ o)
              have ac_A3_2 := fun o => cell_b c_A3_2 (below_alloc _ o)
              clear ac_A0_1 ac_A1_1 ac_A2_1 ac_A3_1 c_A0_1 c_A1_1 c_A2_1 c_A3_1 hb D2 T1
              go_wp2_with fail
              refine (same_b (slices_Contains _ _ xs o (rd_below HR.out T2.out) (by omega))).mono ?_
              rintro e w3 ⟨rfl, hb⟩
              have D3 : Below w2.heap.size w2 w3 := hb
              have c_A0_3 := cell_b c_A0_2 D3
              have c_A1_3 := cell_b c_A1_2 D3
              have c_A2_3 := cell_b c_A2_2 D3
              have c_A3_3 := cell_b c_A3_2 D3
              have T3 := Lib.hid (below_trans T2.out D3)
              have z3 : w2.heap.size ≤ w3.heap.size := (by have := hb.size; (try simp at this); omega)
              have ac_A0_3 := fun o => cell_b c_A0_3 (below_alloc _ o)
              have ac_A1_3 := fun o => cell_b c_A1_3 (below_alloc _ o)
              have ac_A2_3 := fun o => cell_b c_A2_3 (below_alloc _ o)
              have ac_A3_3 := fun o => cell_b c_A3_3 (below_alloc _ o)
              clear ac_A0_2 ac_A1_2 ac_A2_2 ac_A3_2 c_A0_2 c_A1_2 c_A2_2 c_A3_2 hb D3 T2
              go_wp2_with fail
              all_goals go_ret
              all_goals exact ⟨by first | rfl | (have q : xs ≠ [] := (fun h0 => by rw [h0] at hz'; exact absurd hz' (Nat.lt_irrefl 0)); first | (simp [q]; done) | (simp [q]; omega) | (simp_all; done)) | (simp; done) | (simp; omega) | simp_all, T3.out⟩
            · have hh' : hasB xs o = false := by simpa using hh
              clear hh
              have e0 : oval 1 o k xs = true := by simp [oval, ht, hk, vt_dist h6, hd, hh']
              rw [e0]; clear e0
              skip
              subst hk
              have hat : atF xs o < 0 := by have := hasB_at xs o; rw [hh'] at this; simpa using this
              go_enter Try.func27, Try.ntmps27
              have T0 := Lib.hid (Below.refl w.heap.size w)
              go_wp2_with fail
              refine (same_b (I_isThread _ o)).mono ?_
              rintro e w1 ⟨rfl, hb⟩
              have D1 : Below w.heap.size w w1 := below_trans (below_alloc _ _) (hb)
              have T1 := Lib.hid (below_trans T0.out D1)
              have z1 : w.heap.size + 1 ≤ w1.heap.size := (by have := hb.size; (try simp at this); omega)
              have c_A0_1 := cell_b (p := ⟨w.heap.size, 0, none⟩) (v := .int .i64 1) (by simp) hb
              have c_A1_1 := cell_b (p := ⟨w.heap.size, 1, none⟩) (v := .int .i64 o) (by simp) hb
              have c_A2_1 := cell_b (p := ⟨w.heap.size, 2, none⟩) (v := .int .i64 0) (by simp) hb
              have c_A3_1 := cell_b (p := ⟨w.heap.size, 3, none⟩) (v := .slice a xs.length cap) (by simp) hb
              have ac_A0_1 := fun o => cell_b c_A0_1 (below_alloc _ o)
              have ac_A1_1 := fun o => cell_b c_A1_1 (below_alloc _ o)
              have ac_A2_1 := fun o => cell_b c_A2_1 (below_alloc _ o)
              have ac_A3_1 := fun o => cell_b c_A3_1 (below_alloc _ o)
              clear hb D1 T0
              go_wp2_with fail
              refine (I_distinctThreads _ _ xs (rd_below HR.out T1.out) (by omega)).mono ?_
              rintro e w2 ⟨rfl, hb⟩
              have D2 : Below w1.heap.size w1 w2 := hb
              have c_A0_2 := cell_b c_A0_1 D2
              have c_A1_2 := cell_b c_A1_1 D2
              have c_A2_2 := cell_b c_A2_1 D2
              have c_A3_2 := cell_b c_A3_1 D2
              have T2 := Lib.hid (below_trans T1.out D2)
              have z2 : w1.heap.size ≤ w2.heap.size := (by have := hb.size; (try simp at this); omega)
              have ac_A0_2 := fun o => cell_b c_A0_2 (below_alloc _ o)
              have ac_A1_2 := fun o => cell_b c_A1_2 (below_alloc _ o)
              have ac_A2_2 := fun o => cell_b c_A2_2 (below_alloc _ o)
              have ac_A3_2 := fun o => cell_b c_A3_2 (below_alloc _ o)
              clear ac_A0_1 ac_A1_1 ac_A2_1 ac_A3_1 c_A0_1 c_A1_1 c_A2_1 c_A3_1 hb D2 T1
              go_wp2_with fail
              refine (same_b (slices_Contains _ _ xs o (rd_below HR.out T2.out) (by omega))).mono ?_
              rintro e w3 ⟨rfl, hb⟩
              have D3 : Below w2.heap.size w2 w3 := hb
              have c_A0_3 := cell_b c_A0_2 D3
              have c_A1_3 := cell_b c_A1_2 D3
              have c_A2_3 := cell_b c_A2_2 D3
              have c_A3_3 := cell_b c_A3_2 D3
              have T3 := Lib.hid (below_trans T2.out D3)
              have z3 : w2.heap.size ≤ w3.heap.size := (by have := hb.size; (try simp at this); omega)
              have ac_A0_3 := fun o => cell_b c_A0_3 (below_alloc _ o)
              have ac_A1_3 := fun o => cell_b c_A1_3 (below_alloc _ o)
              have ac_A2_3 := fun o => cell_b c_A2_3 (below_alloc _ o)
              have ac_A3_3 := fun o => cell_b c_A3_3 (below_alloc _ o)
              clear ac_A0_2 ac_A1_2 ac_A2_2 ac_A3_2 c_A0_2 c_A1_2 c_A2_2 c_A3_2 hb D3 T2
              go_wp2_with fail
              all_goals go_ret
              all_goals exact ⟨by first | rfl | (have q : xs ≠ [] := (fun h0 => by rw [h0] at hz'; exact absurd hz' (Nat.lt_irrefl 0)); first | (simp [q]; done) | (simp [q]; omega) | (simp_all; done)) | (simp; done) | (simp; omega) | simp_all, T3.out⟩
          · have hd' : dist xs = false := by simpa using hd
            clear hd
            have e0 : oval 1 o k xs = false := by simp [oval, ht, hk, vt_bad hd']
            rw [e0]; clear e0
            skip
            subst hk
            go_enter Try.func27, Try.ntmps27
            have T0 := Lib.hid (Below.refl w.heap.size w)
            go_wp2_with fail
            refine (same_b (I_isThread _ o)).mono ?_
            rintro e w1 ⟨rfl, hb⟩
            have D1 : Below w.heap.size w w1 := below_trans (below_alloc _ _) (hb)
            have T1 := Lib.hid (below_trans T0.out D1)
            have z1 : w.heap.size + 1 ≤ w1.heap.size := (by have := hb.size; (try simp at this); omega)
            have c_A0_1 := cell_b (p := ⟨w.heap.size, 0, none⟩) (v := .int .i64 1) (by simp) hb
            have c_A1_1 := cell_b (p := ⟨w.heap.size, 1, none⟩) (v := .int .i64 o) (by simp) hb
            have c_A2_1 := cell_b (p := ⟨w.heap.size, 2, none⟩) (v := .int .i64 0) (by simp) hb
            have c_A3_1 := cell_b (p := ⟨w.heap.size, 3, none⟩) (v := .slice a xs.length cap) (by simp) hb
            have ac_A0_1 := fun o => cell_b c_A0_1 (below_alloc _ o)
            have ac_A1_1 := fun o => cell_b c_A1_1 (below_alloc _ o)
            have ac_A2_1 := fun o => cell_b c_A2_1 (below_alloc _ o)
            have ac_A3_1 := fun o => cell_b c_A3_1 (below_alloc _ o)
            clear hb D1 T0
            go_wp2_with fail
            refine (I_distinctThreads _ _ xs (rd_below HR.out T1.out) (by omega)).mono ?_
            rintro e w2 ⟨rfl, hb⟩
            have D2 : Below w1.heap.size w1 w2 := hb
            have c_A0_2 := cell_b c_A0_1 D2
            have c_A1_2 := cell_b c_A1_1 D2
            have c_A2_2 := cell_b c_A2_1 D2
            have c_A3_2 := cell_b c_A3_1 D2
            have T2 := Lib.hid (below_trans T1.out D2)
            have z2 : w1.heap.size ≤ w2.heap.size := (by have := hb.size; (try simp at this); omega)
            have ac_A0_2 := fun o => cell_b c_A0_2 (below_alloc _ o)
            have ac_A1_2 := fun o => cell_b c_A1_2 (below_alloc _ o)
            have ac_A2_2 := fun o => cell_b c_A2_2 (below_alloc _ o)
            have ac_A3_2 := fun o => cell_b c_A3_2 (below_alloc _ o)
            clear ac_A0_1 ac_A1_1 ac_A2_1 ac_A3_1 c_A0_1 c_A1_1 c_A2_1 c_A3_1 hb D2 T1
            go_wp2_with fail
            all_goals go_ret
            all_goals exact ⟨by first | rfl | (have q : xs ≠ [] := (fun h0 => by rw [h0] at hz'; exact absurd hz' (Nat.lt_irrefl 0)); first | (simp [q]; done) | (simp [q]; omega) | (simp_all; done)) | (simp; done) | (simp; omega) | simp_all, T2.out⟩
        · have h6' : 6 < xs.length := by omega
          clear h6
          have e0 : oval 1 o k xs = false := by simp [oval, ht, hk, vt_long h6']
          rw [e0]; clear e0
          skip
          subst hk
          go_enter Try.func27, Try.ntmps27
          have T0 := Lib.hid (Below.refl w.heap.size w)
          go_wp2_with fail
          refine (same_b (I_isThread _ o)).mono ?_
          rintro e w1 ⟨rfl, hb⟩
          have D1 : Below w.heap.size w w1 := below_trans (below_alloc _ _) (hb)
          have T1 := Lib.hid (below_trans T0.out D1)
          have z1 : w.heap.size + 1 ≤ w1.heap.size := (by have := hb.size; (try simp at this); omega)
          have c_A0_1 := cell_b (p := ⟨w.heap.size, 0, none⟩) (v := .int .i64 1) (by simp) hb
          have c_A1_1 := cell_b (p := ⟨w.heap.size, 1, none⟩) (v := .int .i64 o) (by simp) hb
          have c_A2_1 := cell_b (p := ⟨w.heap.size, 2, none⟩) (v := .int .i64 0) (by simp) hb
          have c_A3_1 := cell_b (p := ⟨w.heap.size, 3, none⟩) (v := .slice a xs.length cap) (by simp) hb
          have ac_A0_1 := fun o => cell_b c_A0_1 (below_alloc _ o)
          have ac_A1_1 := fun o => cell_b c_A1_1 (below_alloc _ o)
          have ac_A2_1 := fun o => cell_b c_A2_1 (below_alloc _ o)
          have ac_A3_1 := fun o => cell_b c_A3_1 (below_alloc _ o)
          clear hb D1 T0
          go_wp2_with fail
          all_goals go_ret
          all_goals exact ⟨by first | rfl | (have q : xs ≠ [] := (fun h0 => by rw [h0] at hz'; exact absurd hz' (Nat.lt_irrefl 0)); first | (simp [q]; done) | (simp [q]; omega) | (simp_all; done)) | (simp; done) | (simp; omega) | simp_all, T1.out⟩
      · have hk' : ¬ k = 0 := by omega
        clear hk
        have e0 : oval 1 o k xs = false := by simp [oval, ht, hk']
        rw [e0]; clear e0
        skip
        go_enter Try.func27, Try.ntmps27
        have T0 := Lib.hid (Below.refl w.heap.size w)
        go_wp2_with fail
        refine (same_b (I_isThread _ o)).mono ?_
        rintro e w1 ⟨rfl, hb⟩
        have D1 : Below w.heap.size w w1 := below_trans (below_alloc _ _) (hb)
        have T1 := Lib.hid (below_trans T0.out D1)
        have z1 : w.heap.size + 1 ≤ w1.heap.size := (by have := hb.size; (try simp at this); omega)
        have c_A0_1 := cell_b (p := ⟨w.heap.size, 0, none⟩) (v := .int .i64 1) (by simp) hb
        have c_A1_1 := cell_b (p := ⟨w.heap.size, 1, none⟩) (v := .int .i64 o) (by simp) hb
        have c_A2_1 := cell_b (p := ⟨w.heap.size, 2, none⟩) (v := .int .i64 k) (by simp) hb
        have c_A3_1 := cell_b (p := ⟨w.heap.size, 3, none⟩) (v := .slice a xs.length cap) (by simp) hb
        have ac_A0_1 := fun o => cell_b c_A0_1 (below_alloc _ o)
        have ac_A1_1 := fun o => cell_b c_A1_1 (below_alloc _ o)
        have ac_A2_1 := fun o => cell_b c_A2_1 (below_alloc _ o)
        have ac_A3_1 := fun o => cell_b c_A3_1 (below_alloc _ o)
        clear hb D1 T0
        go_wp2_with fail
        all_goals go_ret
        all_goals exact ⟨by first | rfl | (have q : xs ≠ [] := (fun h0 => by rw [h0] at hz'; exact absurd hz' (Nat.lt_irrefl 0)); first | (simp [q]; done) | (simp [q]; omega) | (simp_all; done)) | (simp; done) | (simp; omega) | simp_all, T1.out⟩
    · have ht' : thr o = false := by simpa using ht
      clear ht
      have e0 : oval 1 o k xs = false := by simp [oval, ht']
      rw [e0]; clear e0
      skip
      go_enter Try.func27, Try.ntmps27
      have T0 := Lib.hid (Below.refl w.heap.size w)
      go_wp2_with fail
      refine (same_b (I_isThread _ o)).mono ?_
      rintro e w1 ⟨rfl, hb⟩
      have D1 : Below w.heap.size w w1 := below_trans (below_alloc _ _) (hb)
      have T1 := Lib.hid (below_trans T0.out D1)
      have z1 : w.heap.size + 1 ≤ w1.heap.size := (by have := hb.size; (try simp at this); omega)
      have c_A0_1 := cell_b (p := ⟨w.heap.size, 0, none⟩) (v := .int .i64 1) (by simp) hb
      have c_A1_1 := cell_b (p := ⟨w.heap.size, 1, none⟩) (v := .int .i64 o) (by simp) hb
      have c_A2_1 := cell_b (p := ⟨w.heap.size, 2, none⟩) (v := .int .i64 k) (by simp) hb
      have c_A3_1 := cell_b (p := ⟨w.heap.size, 3, none⟩) (v := .slice a xs.length cap) (by simp) hb
      have ac_A0_1 := fun o => cell_b c_A0_1 (below_alloc _ o)
      have ac_A1_1 := fun o => cell_b c_A1_1 (below_alloc _ o)
      have ac_A2_1 := fun o => cell_b c_A2_1 (below_alloc _ o)
      have ac_A3_1 := fun o => cell_b c_A3_1 (below_alloc _ o)
      clear hb D1 T0
      go_wp2_with fail
      all_goals go_ret
      all_goals exact ⟨by first | rfl | (have q : xs ≠ [] := (fun h0 => by rw [h0] at hz'; exact absurd hz' (Nat.lt_irrefl 0)); first | (simp [q]; done) | (simp [q]; omega) | (simp_all; done)) | (simp; done) | (simp; omega) | simp_all, T1.out⟩
  by_cases h2 : s = 2
  · subst h2
    by_cases ht : thr o = true
    · by_cases hk : val k = true
      · by_cases hz : xs.length = 0
        · have e0 : oval 2 o k xs = true := by simp [oval, ht, hk, hz]
          rw [e0]; clear e0
          obtain rfl := List.eq_nil_of_length_eq_zero hz
          go_enter Try.func27, Try.ntmps27
          have T0 := Lib.hid (Below.refl w.heap.size w)
          go_wp2_with fail
          refine (same_b (I_isThread _ o)).mono ?_
          rintro e w1 ⟨rfl, hb⟩
          have D1 : Below w.heap.size w w1 := below_trans (below_alloc _ _) (hb)
          have T1 := Lib.hid (below_trans T0.out D1)
          have z1 : w.heap.size + 1 ≤ w1.heap.size := (by have := hb.size; (try simp at this); omega)
          have c_A0_1 := cell_b (p := ⟨w.heap.size, 0, none⟩) (v := .int .i64 2) (by simp) hb
          have c_A1_1 := cell_b (p := ⟨w.heap.size, 1, none⟩) (v := .int .i64 o) (by simp) hb
          have c_A2_1 := cell_b (p := ⟨w.heap.size, 2, none⟩) (v := .int .i64 k) (by simp) hb
          have c_A3_1 := cell_b (p := ⟨w.heap.size, 3, none⟩) (v := .slice a 0 cap) (by simp) hb
          have ac_A0_1 := fun o => cell_b c_A0_1 (below_alloc _ o)
          have ac_A1_1 := fun o => cell_b c_A1_1 (below_alloc _ o)
          have ac_A2_1 := fun o => cell_b c_A2_1 (below_alloc _ o)
          have ac_A3_1 := fun o => cell_b c_A3_1 (below_alloc _ o)
          clear hb D1 T0
          go_wp2_with fail
          refine (same_b (I_isValue _ k)).mono ?_
          rintro e w2 ⟨rfl, hb⟩
          have D2 : Below w1.heap.size w1 w2 := hb
          have c_A0_2 := cell_b c_A0_1 D2
          have c_A1_2 := cell_b c_A1_1 D2
          have c_A2_2 := cell_b c_A2_1 D2
          have c_A3_2 := cell_b c_A3_1 D2
          have T2 := Lib.hid (below_trans T1.out D2)
          have z2 : w1.heap.size ≤ w2.heap.size := (by have := hb.size; (try simp at this); omega)
          have ac_A0_2 := fun o => cell_b c_A0_2 (below_alloc _ o)
          have ac_A1_2 := fun o => cell_b c_A1_2 (below_alloc _ o)
          have ac_A2_2 := fun o => cell_b c_A2_2 (below_alloc _ o)
          have ac_A3_2 := fun o => cell_b c_A3_2 (below_alloc _ o)
          clear ac_A0_1 ac_A1_1 ac_A2_1 ac_A3_1 c_A0_1 c_A1_1 c_A2_1 c_A3_1 hb D2 T1
          go_wp2_with fail
          all_goals go_ret
          all_goals exact ⟨by first | rfl | (have q : [] ≠ [] := (fun h0 => by rw [h0] at hz'; exact absurd hz' (Nat.lt_irrefl 0)); first | (simp [q]; done) | (simp [q]; omega) | (simp_all; done)) | (simp; done) | (simp; omega) | simp_all, T2.out⟩
        · have hz' : ¬ xs.length = 0 := by omega
          clear hz
          have e0 : oval 2 o k xs = false := by simp only [oval, ht, hk]; simp; simpa using hz'
          rw [e0]; clear e0
          skip
          go_enter Try.func27, Try.ntmps27
          have T0 := Lib.hid (Below.refl w.heap.size w)
          go_wp2_with fail
          refine (same_b (I_isThread _ o)).mono ?_
          rintro e w1 ⟨rfl, hb⟩
          have D1 : Below w.heap.size w w1 := below_trans (below_alloc _ _) (hb)
          have T1 := Lib.hid (below_trans T0.out D1)
          have z1 : w.heap.size + 1 ≤ w1.heap.size := (by have := hb.size; (try simp at this); omega)
          have c_A0_1 := cell_b (p := ⟨w.heap.size, 0, none⟩) (v := .int .i64 2) (by simp) hb
          have c_A1_1 := cell_b (p := ⟨w.heap.size, 1, none⟩) (v := .int .i64 o) (by simp) hb
          have c_A2_1 := cell_b (p := ⟨w.heap.size, 2, none⟩) (v := .int .i64 k) (by simp) hb
          have c_A3_1 := cell_b (p := ⟨w.heap.size, 3, none⟩) (v := .slice a xs.length cap) (by simp) hb
          have ac_A0_1 := fun o => cell_b c_A0_1 (below_alloc _ o)
          have ac_A1_1 := fun o => cell_b c_A1_1 (below_alloc _ o)
          have ac_A2_1 := fun o => cell_b c_A2_1 (below_alloc _ o)
          have ac_A3_1 := fun o => cell_b c_A3_1 (below_alloc _ o)
          clear hb D1 T0
          go_wp2_with fail
          refine (same_b (I_isValue _ k)).mono ?_
          rintro e w2 ⟨rfl, hb⟩
          have D2 : Below w1.heap.size w1 w2 := hb
          have c_A0_2 := cell_b c_A0_1 D2
          have c_A1_2 := cell_b c_A1_1 D2
          have c_A2_2 := cell_b c_A2_1 D2
          have c_A3_2 := cell_b c_A3_1 D2
          have T2 := Lib.hid (below_trans T1.out D2)
          have z2 : w1.heap.size ≤ w2.heap.size := (by have := hb.size; (try simp at this); omega)
          have ac_A0_2 := fun o => cell_b c_A0_2 (below_alloc _ o)
          have ac_A1_2 := fun o => cell_b c_A1_2 (below_alloc _ o)
          have ac_A2_2 := fun o => cell_b c_A2_2 (below_alloc _ o)
          have ac_A3_2 := fun o => cell_b c_A3_2 (below_alloc _ o)
          clear ac_A0_1 ac_A1_1 ac_A2_1 ac_A3_1 c_A0_1 c_A1_1 c_A2_1 c_A3_1 hb D2 T1
          go_wp2_with fail
          all_goals go_ret
          all_goals exact ⟨by first | rfl | (have q : xs ≠ [] := (fun h0 => by rw [h0] at hz'; exact absurd hz' (Nat.lt_irrefl 0)); first | (simp [q]; done) | (simp [q]; omega) | (simp_all; done)) | (simp; done) | (simp; omega) | simp_all, T2.out⟩
      · have hk' : val k = false := by simpa using hk
        clear hk
        have e0 : oval 2 o k xs = false := by simp [oval, ht, hk']
        rw [e0]; clear e0
        skip
        go_enter Try.func27, Try.ntmps27
        have T0 := Lib.hid (Below.refl w.heap.size w)
        go_wp2_with fail
        refine (same_b (I_isThread _ o)).mono ?_
        rintro e w1 ⟨rfl, hb⟩
        have D1 : Below w.heap.size w w1 := below_trans (below_alloc _ _) (hb)
        have T1 := Lib.hid (below_trans T0.out D1)
        have z1 : w.heap.size + 1 ≤ w1.heap.size := (by have := hb.size; (try simp at this); omega)
        have c_A0_1 := cell_b (p := ⟨w.heap.size, 0, none⟩) (v := .int .i64 2) (by simp) hb
        have c_A1_1 := cell_b (p := ⟨w.heap.size, 1, none⟩) (v := .int .i64 o) (by simp) hb
        have c_A2_1 := cell_b (p := ⟨w.heap.size, 2, none⟩) (v := .int .i64 k) (by simp) hb
        have c_A3_1 := cell_b (p := ⟨w.heap.size, 3, none⟩) (v := .slice a xs.length cap) (by simp) hb
        have ac_A0_1 := fun o => cell_b c_A0_1 (below_alloc _ o)
        have ac_A1_1 := fun o => cell_b c_A1_1 (below_alloc _ o)
        have ac_A2_1 := fun o => cell_b c_A2_1 (below_alloc _ o)
        have ac_A3_1 := fun o => cell_b c_A3_1 (below_alloc _ o)
        clear hb D1 T0
        go_wp2_with fail
        refine (same_b (I_isValue _ k)).mono ?_
        rintro e w2 ⟨rfl, hb⟩
        have D2 : Below w1.heap.size w1 w2 := hb
        have c_A0_2 := cell_b c_A0_1 D2
        have c_A1_2 := cell_b c_A1_1 D2
        have c_A2_2 := cell_b c_A2_1 D2
        have c_A3_2 := cell_b c_A3_1 D2
        have T2 := Lib.hid (below_trans T1.out D2)
        have z2 : w1.heap.size ≤ w2.heap.size := (by have := hb.size; (try simp at this); omega)
        have ac_A0_2 := fun o => cell_b c_A0_2 (below_alloc _ o)
        have ac_A1_2 := fun o => cell_b c_A1_2 (below_alloc _ o)
        have ac_A2_2 := fun o => cell_b c_A2_2 (below_alloc _ o)
        have ac_A3_2 := fun o => cell_b c_A3_2 (below_alloc _ o)
        clear ac_A0_1 ac_A1_1 ac_A2_1 ac_A3_1 c_A0_1 c_A1_1 c_A2_1 c_A3_1 hb D2 T1
        go_wp2_with fail
        all_goals go_ret
        all_goals exact ⟨by first | rfl | (have q : xs ≠ [] := (fun h0 => by rw [h0] at hz'; exact absurd hz' (Nat.lt_irrefl 0)); first | (simp [q]; done) | (simp [q]; omega) | (simp_all; done)) | (simp; done) | (simp; omega) | simp_all, T2.out⟩
    · have ht' : thr o = false := by simpa using ht
      clear ht
      have e0 : oval 2 o k xs = false := by simp [oval, ht']
      rw [e0]; clear e0
      skip
      go_enter Try.func27, Try.ntmps27
      have T0 := Lib.hid (Below.refl w.heap.size w)
      go_wp2_with fail
      refine (same_b (I_isThread _ o)).mono ?_
      rintro e w1 ⟨rfl, hb⟩
      have D1 : Below w.heap.size w w1 := below_trans (below_alloc _ _) (hb)
      have T1 := Lib.hid (below_trans T0.out D1)
      have z1 : w.heap.size + 1 ≤ w1.heap.size := (by have := hb.size; (try simp at this); omega)
      have c_A0_1 := cell_b (p := ⟨w.heap.size, 0, none⟩) (v := .int .i64 2) (by simp) hb
      have c_A1_1 := cell_b (p := ⟨w.heap.size, 1, none⟩) (v := .int .i64 o) (by simp) hb
      have c_A2_1 := cell_b (p := ⟨w.heap.size, 2, none⟩) (v := .int .i64 k) (by simp) hb
      have c_A3_1 := cell_b (p := ⟨w.heap.size, 3, none⟩) (v := .slice a xs.length cap) (by simp) hb
      have ac_A0_1 := fun o => cell_b c_A0_1 (below_alloc _ o)
      have ac_A1_1 := fun o => cell_b c_A1_1 (below_alloc _ o)
      have ac_A2_1 := fun o => cell_b c_A2_1 (below_alloc _ o)
      have ac_A3_1 := fun o => cell_b c_A3_1 (below_alloc _ o)
      clear hb D1 T0
      go_wp2_with fail
      all_goals go_ret
      all_goals exact ⟨by first | rfl | (have q : xs ≠ [] := (fun h0 => by rw [h0] at hz'; exact absurd hz' (Nat.lt_irrefl 0)); first | (simp [q]; done) | (simp [q]; omega) | (simp_all; done)) | (simp; done) | (simp; omega) | simp_all, T1.out⟩
  have e0 : oval s o k xs = false := by simp [oval, h0, h1, h2]
  rw [e0]; clear e0
  skip
  go_enter Try.func27, Try.ntmps27
  have T0 := Lib.hid (Below.refl w.heap.size w)
  go_wp2_with fail
  all_goals go_ret
  all_goals exact ⟨by first | rfl | (have q : xs ≠ [] := (fun h0 => by rw [h0] at hz'; exact absurd hz' (Nat.lt_irrefl 0)); first | (simp [q]; done) | (simp [q]; omega) | (simp_all; done)) | (simp; done) | (simp; omega) | simp_all, (below_trans T0.out (below_alloc _ _))⟩

set_option maxHeartbeats 4000000 in
theorem S_OnceValid (w : World) (s o k : Int) (v : Value) (xs : List Int) (hr : Rd w v xs) (hl : xs.length ≤ 4294967296) :
    Calls Try.prog 28 #[.agg #[.int .i64 s, .int .i64 o, .int .i64 k, v]] w fun e w' => e = .returned (.bool (oval s o k xs)) ∧ Below w.heap.size w w' := by
  have HR := Lib.hid hr
  obtain ⟨a, cap, rfl, hcap, hnc, hr⟩ := hr
  clear hr hnc
  by_cases h0 : s = 0
  · subst h0
    by_cases ho : o = 0
    · by_cases hk : k = 0
      · by_cases hz : xs.length = 0
        · have e0 : oval 0 o k xs = true := by simp [oval, ho, hk, hz]
          rw [e0]; clear e0
          obtain rfl := List.eq_nil_of_length_eq_zero hz
          subst ho
          subst hk
          go_enter Try.func28, Try.ntmps28
          have T0 := Lib.hid (Below.refl w.heap.size w)
          go_wp2_with fail
          all_goals go_ret
          all_goals exact ⟨by first | rfl | (have q : [] ≠ [] := (fun h0 => by rw [h0] at hz'; exact absurd hz' (Nat.lt_irrefl 0)); first | (simp [q]; done) | (simp [q]; omega) | (simp_all; done)) | (simp; done) | (simp; omega) | simp_all, (below_trans T0.out (below_alloc _ _))⟩
        · have hz' : ¬ xs.length = 0 := by omega
          clear hz
          have e0 : oval 0 o k xs = false := by simp [oval, ho, hk]; simpa using hz'
          rw [e0]; clear e0
          skip
          subst ho
          subst hk
          go_enter Try.func28, Try.ntmps28
          have T0 := Lib.hid (Below.refl w.heap.size w)
          go_wp2_with fail
          all_goals go_ret
          all_goals exact ⟨by first | rfl | (have q : xs ≠ [] := (fun h0 => by rw [h0] at hz'; exact absurd hz' (Nat.lt_irrefl 0)); first | (simp [q]; done) | (simp [q]; omega) | (simp_all; done)) | (simp; done) | (simp; omega) | simp_all, (below_trans T0.out (below_alloc _ _))⟩
      · have hk' : ¬ k = 0 := by omega
        clear hk
        have e0 : oval 0 o k xs = false := by simp [oval, hk']
        rw [e0]; clear e0
        skip
        go_enter Try.func28, Try.ntmps28
        have T0 := Lib.hid (Below.refl w.heap.size w)
        go_wp2_with fail
        all_goals go_ret
        all_goals exact ⟨by first | rfl | (have q : xs ≠ [] := (fun h0 => by rw [h0] at hz'; exact absurd hz' (Nat.lt_irrefl 0)); first | (simp [q]; done) | (simp [q]; omega) | (simp_all; done)) | (simp; done) | (simp; omega) | simp_all, (below_trans T0.out (below_alloc _ _))⟩
    · have ho' : ¬ o = 0 := by omega
      clear ho
      have e0 : oval 0 o k xs = false := by simp [oval, ho']
      rw [e0]; clear e0
      skip
      go_enter Try.func28, Try.ntmps28
      have T0 := Lib.hid (Below.refl w.heap.size w)
      go_wp2_with fail
      all_goals go_ret
      all_goals exact ⟨by first | rfl | (have q : xs ≠ [] := (fun h0 => by rw [h0] at hz'; exact absurd hz' (Nat.lt_irrefl 0)); first | (simp [q]; done) | (simp [q]; omega) | (simp_all; done)) | (simp; done) | (simp; omega) | simp_all, (below_trans T0.out (below_alloc _ _))⟩
  by_cases h1 : s = 1
  · subst h1
    by_cases ht : thr o = true
    · by_cases hk : k = 0
      · by_cases hd : vt xs = true
        · by_cases hh : hasB xs o = true
          · have e0 : oval 1 o k xs = false := by simp [oval, ht, hk, hd, hh]
            rw [e0]; clear e0
            skip
            subst hk
            have hat : 0 ≤ atF xs o := by have := hasB_at xs o; rw [hh] at this; simpa using this
            go_enter Try.func28, Try.ntmps28
            have T0 := Lib.hid (Below.refl w.heap.size w)
            go_wp2_with fail
            refine (same_b (S_l1Thread _ o)).mono ?_
            rintro e w1 ⟨rfl, hb⟩
            have D1 : Below w.heap.size w w1 := below_trans (below_alloc _ _) (hb)
            have T1 := Lib.hid (below_trans T0.out D1)
            have z1 : w.heap.size + 1 ≤ w1.heap.size := (by have := hb.size; (try simp at this); omega)
            have c_A0_1 := cell_b (p := ⟨w.heap.size, 0, none⟩) (v := .int .i64 1) (by simp) hb
            have c_A1_1 := cell_b (p := ⟨w.heap.size, 1, none⟩) (v := .int .i64 o) (by simp) hb
            have c_A2_1 := cell_b (p := ⟨w.heap.size, 2, none⟩) (v := .int .i64 0) (by simp) hb
            have c_A3_1 := cell_b (p := ⟨w.heap.size, 3, none⟩) (v := .slice a xs.length cap) (by simp) hb
            have ac_A0_1 := fun o => cell_b c_A0_1 (below_alloc _ o)
            have ac_A1_1 := fun o => cell_b c_A1_1 (below_alloc _ o)
            have ac_A2_1 := fun o => cell_b c_A2_1 (below_alloc _ o)
            have ac_A3_1 := fun o => cell_b c_A3_1 (below_alloc _ o)
            clear hb D1 T0
            go_wp2_with fail
            refine (drew_b (S_l2Waits _ _ xs (rd_below HR.out T1.out) (by omega))).mono ?_
            rintro e w2 ⟨rfl, hb⟩
            have D2 : Below w1.heap.size w1 w2 := hb
            have c_A0_2 := cell_b c_A0_1 D2
            have c_A1_2 := cell_b c_A1_1 D2
            have c_A2_2 := cell_b c_A2_1 D2
            have c_A3_2 := cell_b c_A3_1 D2
            have T2 := Lib.hid (below_trans T1.out D2)
            have z2 : w1.heap.size ≤ w2.heap.size := (by have := hb.size; (try simp at this); omega)
            have ac_A0_2 := fun o => cell_b c_A0_2 (below_alloc _ o)
            have ac_A1_2 := fun o => cell_b c_A1_2 (below_alloc _ o)
            have ac_A2_2 := fun o => cell_b c_A2_2 (below_alloc _ o)
            have ac_A3_2 := fun o => cell_b c_A3_2 (below_alloc _ o)
            clear ac_A0_1 ac_A1_1 ac_A2_1 ac_A3_1 c_A0_1 c_A1_1 c_A2_1 c_A3_1 hb D2 T1
            go_wp2_with fail
            refine (same_b (S_l2At _ _ xs o (rd_below HR.out T2.out) (by omega))).mono ?_
            rintro e w3 ⟨rfl, hb⟩
            have D3 : Below w2.heap.size w2 w3 := hb
            have c_A0_3 := cell_b c_A0_2 D3
            have c_A1_3 := cell_b c_A1_2 D3
            have c_A2_3 := cell_b c_A2_2 D3
            have c_A3_3 := cell_b c_A3_2 D3
            have T3 := Lib.hid (below_trans T2.out D3)
            have z3 : w2.heap.size ≤ w3.heap.size := (by have := hb.size; (try simp at this); omega)
            have ac_A0_3 := fun o => cell_b c_A0_3 (below_alloc _ o)
            have ac_A1_3 := fun o => cell_b c_A1_3 (below_alloc _ o)
            have ac_A2_3 := fun o => cell_b c_A2_3 (below_alloc _ o)
            have ac_A3_3 := fun o => cell_b c_A3_3 (below_alloc _ o)
            clear ac_A0_2 ac_A1_2 ac_A2_2 ac_A3_2 c_A0_2 c_A1_2 c_A2_2 c_A3_2 hb D3 T2
            go_wp2_with fail
            all_goals go_ret
            all_goals exact ⟨by first | rfl | (have q : xs ≠ [] := (fun h0 => by rw [h0] at hz'; exact absurd hz' (Nat.lt_irrefl 0)); first | (simp [q]; done) | (simp [q]; omega) | (simp_all; done)) | (simp; done) | (simp; omega) | simp_all, T3.out⟩
          · have hh' : hasB xs o = false := by simpa using hh
            clear hh
            have e0 : oval 1 o k xs = true := by simp [oval, ht, hk, hd, hh']
            rw [e0]; clear e0
            skip
            subst hk
            have hat : atF xs o < 0 := by have := hasB_at xs o; rw [hh'] at this; simpa using this
            go_enter Try.func28, Try.ntmps28
            have T0 := Lib.hid (Below.refl w.heap.size w)
            go_wp2_with fail
            refine (same_b (S_l1Thread _ o)).mono ?_
            rintro e w1 ⟨rfl, hb⟩
            have D1 : Below w.heap.size w w1 := below_trans (below_alloc _ _) (hb)
            have T1 := Lib.hid (below_trans T0.out D1)
            have z1 : w.heap.size + 1 ≤ w1.heap.size := (by have := hb.size; (try simp at this); omega)
            have c_A0_1 := cell_b (p := ⟨w.heap.size, 0, none⟩) (v := .int .i64 1) (by simp) hb
            have c_A1_1 := cell_b (p := ⟨w.heap.size, 1, none⟩) (v := .int .i64 o) (by simp) hb
            have c_A2_1 := cell_b (p := ⟨w.heap.size, 2, none⟩) (v := .int .i64 0) (by simp) hb
            have c_A3_1 := cell_b (p := ⟨w.heap.size, 3, none⟩) (v := .slice a xs.length cap) (by simp) hb
            have ac_A0_1 := fun o => cell_b c_A0_1 (below_alloc _ o)
            have ac_A1_1 := fun o => cell_b c_A1_1 (below_alloc _ o)
            have ac_A2_1 := fun o => cell_b c_A2_1 (below_alloc _ o)
            have ac_A3_1 := fun o => cell_b c_A3_1 (below_alloc _ o)
            clear hb D1 T0
            go_wp2_with fail
            refine (drew_b (S_l2Waits _ _ xs (rd_below HR.out T1.out) (by omega))).mono ?_
            rintro e w2 ⟨rfl, hb⟩
            have D2 : Below w1.heap.size w1 w2 := hb
            have c_A0_2 := cell_b c_A0_1 D2
            have c_A1_2 := cell_b c_A1_1 D2
            have c_A2_2 := cell_b c_A2_1 D2
            have c_A3_2 := cell_b c_A3_1 D2
            have T2 := Lib.hid (below_trans T1.out D2)
            have z2 : w1.heap.size ≤ w2.heap.size := (by have := hb.size; (try simp at this); omega)
            have ac_A0_2 := fun o => cell_b c_A0_2 (below_alloc _ o)
            have ac_A1_2 := fun o => cell_b c_A1_2 (below_alloc _ o)
            have ac_A2_2 := fun o => cell_b c_A2_2 (below_alloc _ o)
            have ac_A3_2 := fun o => cell_b c_A3_2 (below_alloc _ o)
            clear ac_A0_1 ac_A1_1 ac_A2_1 ac_A3_1 c_A0_1 c_A1_1 c_A2_1 c_A3_1 hb D2 T1
            go_wp2_with fail
            refine (same_b (S_l2At _ _ xs o (rd_below HR.out T2.out) (by omega))).mono ?_
            rintro e w3 ⟨rfl, hb⟩
            have D3 : Below w2.heap.size w2 w3 := hb
            have c_A0_3 := cell_b c_A0_2 D3
            have c_A1_3 := cell_b c_A1_2 D3
            have c_A2_3 := cell_b c_A2_2 D3
            have c_A3_3 := cell_b c_A3_2 D3
            have T3 := Lib.hid (below_trans T2.out D3)
            have z3 : w2.heap.size ≤ w3.heap.size := (by have := hb.size; (try simp at this); omega)
            have ac_A0_3 := fun o => cell_b c_A0_3 (below_alloc _ o)
            have ac_A1_3 := fun o => cell_b c_A1_3 (below_alloc _ o)
            have ac_A2_3 := fun o => cell_b c_A2_3 (below_alloc _ o)
            have ac_A3_3 := fun o => cell_b c_A3_3 (below_alloc _ o)
            clear ac_A0_2 ac_A1_2 ac_A2_2 ac_A3_2 c_A0_2 c_A1_2 c_A2_2 c_A3_2 hb D3 T2
            go_wp2_with fail
            all_goals go_ret
            all_goals exact ⟨by first | rfl | (have q : xs ≠ [] := (fun h0 => by rw [h0] at hz'; exact absurd hz' (Nat.lt_irrefl 0)); first | (simp [q]; done) | (simp [q]; omega) | (simp_all; done)) | (simp; done) | (simp; omega) | simp_all, T3.out⟩
        · have hd' : vt xs = false := by simpa using hd
          clear hd
          have e0 : oval 1 o k xs = false := by simp [oval, ht, hk, hd']
          rw [e0]; clear e0
          skip
          subst hk
          go_enter Try.func28, Try.ntmps28
          have T0 := Lib.hid (Below.refl w.heap.size w)
          go_wp2_with fail
          refine (same_b (S_l1Thread _ o)).mono ?_
          rintro e w1 ⟨rfl, hb⟩
          have D1 : Below w.heap.size w w1 := below_trans (below_alloc _ _) (hb)
          have T1 := Lib.hid (below_trans T0.out D1)
          have z1 : w.heap.size + 1 ≤ w1.heap.size := (by have := hb.size; (try simp at this); omega)
          have c_A0_1 := cell_b (p := ⟨w.heap.size, 0, none⟩) (v := .int .i64 1) (by simp) hb
          have c_A1_1 := cell_b (p := ⟨w.heap.size, 1, none⟩) (v := .int .i64 o) (by simp) hb
          have c_A2_1 := cell_b (p := ⟨w.heap.size, 2, none⟩) (v := .int .i64 0) (by simp) hb
          have c_A3_1 := cell_b (p := ⟨w.heap.size, 3, none⟩) (v := .slice a xs.length cap) (by simp) hb
          have ac_A0_1 := fun o => cell_b c_A0_1 (below_alloc _ o)
          have ac_A1_1 := fun o => cell_b c_A1_1 (below_alloc _ o)
          have ac_A2_1 := fun o => cell_b c_A2_1 (below_alloc _ o)
          have ac_A3_1 := fun o => cell_b c_A3_1 (below_alloc _ o)
          clear hb D1 T0
          go_wp2_with fail
          refine (drew_b (S_l2Waits _ _ xs (rd_below HR.out T1.out) (by omega))).mono ?_
          rintro e w2 ⟨rfl, hb⟩
          have D2 : Below w1.heap.size w1 w2 := hb
          have c_A0_2 := cell_b c_A0_1 D2
          have c_A1_2 := cell_b c_A1_1 D2
          have c_A2_2 := cell_b c_A2_1 D2
          have c_A3_2 := cell_b c_A3_1 D2
          have T2 := Lib.hid (below_trans T1.out D2)
          have z2 : w1.heap.size ≤ w2.heap.size := (by have := hb.size; (try simp at this); omega)
          have ac_A0_2 := fun o => cell_b c_A0_2 (below_alloc _ o)
          have ac_A1_2 := fun o => cell_b c_A1_2 (below_alloc _ o)
          have ac_A2_2 := fun o => cell_b c_A2_2 (below_alloc _ o)
          have ac_A3_2 := fun o => cell_b c_A3_2 (below_alloc _ o)
          clear ac_A0_1 ac_A1_1 ac_A2_1 ac_A3_1 c_A0_1 c_A1_1 c_A2_1 c_A3_1 hb D2 T1
          go_wp2_with fail
          all_goals go_ret
          all_goals exact ⟨by first | rfl | (have q : xs ≠ [] := (fun h0 => by rw [h0] at hz'; exact absurd hz' (Nat.lt_irrefl 0)); first | (simp [q]; done) | (simp [q]; omega) | (simp_all; done)) | (simp; done) | (simp; omega) | simp_all, T2.out⟩
      · have hk' : ¬ k = 0 := by omega
        clear hk
        have e0 : oval 1 o k xs = false := by simp [oval, ht, hk']
        rw [e0]; clear e0
        skip
        go_enter Try.func28, Try.ntmps28
        have T0 := Lib.hid (Below.refl w.heap.size w)
        go_wp2_with fail
        refine (same_b (S_l1Thread _ o)).mono ?_
        rintro e w1 ⟨rfl, hb⟩
        have D1 : Below w.heap.size w w1 := below_trans (below_alloc _ _) (hb)
        have T1 := Lib.hid (below_trans T0.out D1)
        have z1 : w.heap.size + 1 ≤ w1.heap.size := (by have := hb.size; (try simp at this); omega)
        have c_A0_1 := cell_b (p := ⟨w.heap.size, 0, none⟩) (v := .int .i64 1) (by simp) hb
        have c_A1_1 := cell_b (p := ⟨w.heap.size, 1, none⟩) (v := .int .i64 o) (by simp) hb
        have c_A2_1 := cell_b (p := ⟨w.heap.size, 2, none⟩) (v := .int .i64 k) (by simp) hb
        have c_A3_1 := cell_b (p := ⟨w.heap.size, 3, none⟩) (v := .slice a xs.length cap) (by simp) hb
        have ac_A0_1 := fun o => cell_b c_A0_1 (below_alloc _ o)
        have ac_A1_1 := fun o => cell_b c_A1_1 (below_alloc _ o)
        have ac_A2_1 := fun o => cell_b c_A2_1 (below_alloc _ o)
        have ac_A3_1 := fun o => cell_b c_A3_1 (below_alloc _ o)
        clear hb D1 T0
        go_wp2_with fail
        all_goals go_ret
        all_goals exact ⟨by first | rfl | (have q : xs ≠ [] := (fun h0 => by rw [h0] at hz'; exact absurd hz' (Nat.lt_irrefl 0)); first | (simp [q]; done) | (simp [q]; omega) | (simp_all; done)) | (simp; done) | (simp; omega) | simp_all, T1.out⟩
    · have ht' : thr o = false := by simpa using ht
      clear ht
      have e0 : oval 1 o k xs = false := by simp [oval, ht']
      rw [e0]; clear e0
      skip
      go_enter Try.func28, Try.ntmps28
      have T0 := Lib.hid (Below.refl w.heap.size w)
      go_wp2_with fail
      refine (same_b (S_l1Thread _ o)).mono ?_
      rintro e w1 ⟨rfl, hb⟩
      have D1 : Below w.heap.size w w1 := below_trans (below_alloc _ _) (hb)
      have T1 := Lib.hid (below_trans T0.out D1)
      have z1 : w.heap.size + 1 ≤ w1.heap.size := (by have := hb.size; (try simp at this); omega)
      have c_A0_1 := cell_b (p := ⟨w.heap.size, 0, none⟩) (v := .int .i64 1) (by simp) hb
      have c_A1_1 := cell_b (p := ⟨w.heap.size, 1, none⟩) (v := .int .i64 o) (by simp) hb
      have c_A2_1 := cell_b (p := ⟨w.heap.size, 2, none⟩) (v := .int .i64 k) (by simp) hb
      have c_A3_1 := cell_b (p := ⟨w.heap.size, 3, none⟩) (v := .slice a xs.length cap) (by simp) hb
      have ac_A0_1 := fun o => cell_b c_A0_1 (below_alloc _ o)
      have ac_A1_1 := fun o => cell_b c_A1_1 (below_alloc _ o)
      have ac_A2_1 := fun o => cell_b c_A2_1 (below_alloc _ o)
      have ac_A3_1 := fun o => cell_b c_A3_1 (below_alloc _ o)
      clear hb D1 T0
      go_wp2_with fail
      all_goals go_ret
      all_goals exact ⟨by first | rfl | (have q : xs ≠ [] := (fun h0 => by rw [h0] at hz'; exact absurd hz' (Nat.lt_irrefl 0)); first | (simp [q]; done) | (simp [q]; omega) | (simp_all; done)) | (simp; done) | (simp; omega) | simp_all, T1.out⟩
  by_cases h2 : s = 2
  · subst h2
    by_cases ht : thr o = true
    · by_cases hk : val k = true
      · by_cases hz : xs.length = 0
        · have e0 : oval 2 o k xs = true := by simp [oval, ht, hk, hz]
          rw [e0]; clear e0
          obtain rfl := List.eq_nil_of_length_eq_zero hz
          go_enter Try.func28, Try.ntmps28
          have T0 := Lib.hid (Below.refl w.heap.size w)
          go_wp2_with fail
          refine (same_b (S_l1Thread _ o)).mono ?_
          rintro e w1 ⟨rfl, hb⟩
          have D1 : Below w.heap.size w w1 := below_trans (below_alloc _ _) (hb)
          have T1 := Lib.hid (below_trans T0.out D1)
          have z1 : w.heap.size + 1 ≤ w1.heap.size := (by have := hb.size; (try simp at this); omega)
          have c_A0_1 := cell_b (p := ⟨w.heap.size, 0, none⟩) (v := .int .i64 2) (by simp) hb
          have c_A1_1 := cell_b (p := ⟨w.heap.size, 1, none⟩) (v := .int .i64 o) (by simp) hb
          have c_A2_1 := cell_b (p := ⟨w.heap.size, 2, none⟩) (v := .int .i64 k) (by simp) hb
          have c_A3_1 := cell_b (p := ⟨w.heap.size, 3, none⟩) (v := .slice a 0 cap) (by simp) hb
          have ac_A0_1 := fun o => cell_b c_A0_1 (below_alloc _ o)
          have ac_A1_1 := fun o => cell_b c_A1_1 (below_alloc _ o)
          have ac_A2_1 := fun o => cell_b c_A2_1 (below_alloc _ o)
          have ac_A3_1 := fun o => cell_b c_A3_1 (below_alloc _ o)
          clear hb D1 T0
          go_wp2_with fail
          refine (same_b (S_l2Value _ k)).mono ?_
          rintro e w2 ⟨rfl, hb⟩
          have D2 : Below w1.heap.size w1 w2 := hb
          have c_A0_2 := cell_b c_A0_1 D2
          have c_A1_2 := cell_b c_A1_1 D2
          have c_A2_2 := cell_b c_A2_1 D2
          have c_A3_2 := cell_b c_A3_1 D2
          have T2 := Lib.hid (below_trans T1.out D2)
          have z2 : w1.heap.size ≤ w2.heap.size := (by have := hb.size; (try simp at this); omega)
          have ac_A0_2 := fun o => cell_b c_A0_2 (below_alloc _ o)
          have ac_A1_2 := fun o => cell_b c_A1_2 (below_alloc _ o)
          have ac_A2_2 := fun o => cell_b c_A2_2 (below_alloc _ o)
          have ac_A3_2 := fun o => cell_b c_A3_2 (below_alloc _ o)
          clear ac_A0_1 ac_A1_1 ac_A2_1 ac_A3_1 c_A0_1 c_A1_1 c_A2_1 c_A3_1 hb D2 T1
          go_wp2_with fail
          all_goals go_ret
          all_goals exact ⟨by first | rfl | (have q : [] ≠ [] := (fun h0 => by rw [h0] at hz'; exact absurd hz' (Nat.lt_irrefl 0)); first | (simp [q]; done) | (simp [q]; omega) | (simp_all; done)) | (simp; done) | (simp; omega) | simp_all, T2.out⟩
        · have hz' : ¬ xs.length = 0 := by omega
          clear hz
          have e0 : oval 2 o k xs = false := by simp only [oval, ht, hk]; simp; simpa using hz'
          rw [e0]; clear e0
          skip
          go_enter Try.func28, Try.ntmps28
          have T0 := Lib.hid (Below.refl w.heap.size w)
          go_wp2_with fail
          refine (same_b (S_l1Thread _ o)).mono ?_
          rintro e w1 ⟨rfl, hb⟩
          have D1 : Below w.heap.size w w1 := below_trans (below_alloc _ _) (hb)
          have T1 := Lib.hid (below_trans T0.out D1)
          have z1 : w.heap.size + 1 ≤ w1.heap.size := (by have := hb.size; (try simp at this); omega)
          have c_A0_1 := cell_b (p := ⟨w.heap.size, 0, none⟩) (v := .int .i64 2) (by simp) hb
          have c_A1_1 := cell_b (p := ⟨w.heap.size, 1, none⟩) (v := .int .i64 o) (by simp) hb
          have c_A2_1 := cell_b (p := ⟨w.heap.size, 2, none⟩) (v := .int .i64 k) (by simp) hb
          have c_A3_1 := cell_b (p := ⟨w.heap.size, 3, none⟩) (v := .slice a xs.length cap) (by simp) hb
          have ac_A0_1 := fun o => cell_b c_A0_1 (below_alloc _ o)
          have ac_A1_1 := fun o => cell_b c_A1_1 (below_alloc _ o)
          have ac_A2_1 := fun o => cell_b c_A2_1 (below_alloc _ o)
          have ac_A3_1 := fun o => cell_b c_A3_1 (below_alloc _ o)
          clear hb D1 T0
          go_wp2_with fail
          refine (same_b (S_l2Value _ k)).mono ?_
          rintro e w2 ⟨rfl, hb⟩
          have D2 : Below w1.heap.size w1 w2 := hb
          have c_A0_2 := cell_b c_A0_1 D2
          have c_A1_2 := cell_b c_A1_1 D2
          have c_A2_2 := cell_b c_A2_1 D2
          have c_A3_2 := cell_b c_A3_1 D2
          have T2 := Lib.hid (below_trans T1.out D2)
          have z2 : w1.heap.size ≤ w2.heap.size := (by have := hb.size; (try simp at this); omega)
          have ac_A0_2 := fun o => cell_b c_A0_2 (below_alloc _ o)
          have ac_A1_2 := fun o => cell_b c_A1_2 (below_alloc _ o)
          have ac_A2_2 := fun o => cell_b c_A2_2 (below_alloc _ o)
          have ac_A3_2 := fun o => cell_b c_A3_2 (below_alloc _ o)
          clear ac_A0_1 ac_A1_1 ac_A2_1 ac_A3_1 c_A0_1 c_A1_1 c_A2_1 c_A3_1 hb D2 T1
          go_wp2_with fail
          all_goals go_ret
          all_goals exact ⟨by first | rfl | (have q : xs ≠ [] := (fun h0 => by rw [h0] at hz'; exact absurd hz' (Nat.lt_irrefl 0)); first | (simp [q]; done) | (simp [q]; omega) | (simp_all; done)) | (simp; done) | (simp; omega) | simp_all, T2.out⟩
      · have hk' : val k = false := by simpa using hk
        clear hk
        have e0 : oval 2 o k xs = false := by simp [oval, ht, hk']
        rw [e0]; clear e0
        skip
        go_enter Try.func28, Try.ntmps28
        have T0 := Lib.hid (Below.refl w.heap.size w)
        go_wp2_with fail
        refine (same_b (S_l1Thread _ o)).mono ?_
        rintro e w1 ⟨rfl, hb⟩
        have D1 : Below w.heap.size w w1 := below_trans (below_alloc _ _) (hb)
        have T1 := Lib.hid (below_trans T0.out D1)
        have z1 : w.heap.size + 1 ≤ w1.heap.size := (by have := hb.size; (try simp at this); omega)
        have c_A0_1 := cell_b (p := ⟨w.heap.size, 0, none⟩) (v := .int .i64 2) (by simp) hb
        have c_A1_1 := cell_b (p := ⟨w.heap.size, 1, none⟩) (v := .int .i64 o) (by simp) hb
        have c_A2_1 := cell_b (p := ⟨w.heap.size, 2, none⟩) (v := .int .i64 k) (by simp) hb
        have c_A3_1 := cell_b (p := ⟨w.heap.size, 3, none⟩) (v := .slice a xs.length cap) (by simp) hb
        have ac_A0_1 := fun o => cell_b c_A0_1 (below_alloc _ o)
        have ac_A1_1 := fun o => cell_b c_A1_1 (below_alloc _ o)
        have ac_A2_1 := fun o => cell_b c_A2_1 (below_alloc _ o)
        have ac_A3_1 := fun o => cell_b c_A3_1 (below_alloc _ o)
        clear hb D1 T0
        go_wp2_with fail
        refine (same_b (S_l2Value _ k)).mono ?_
        rintro e w2 ⟨rfl, hb⟩
        have D2 : Below w1.heap.size w1 w2 := hb
        have c_A0_2 := cell_b c_A0_1 D2
        have c_A1_2 := cell_b c_A1_1 D2
        have c_A2_2 := cell_b c_A2_1 D2
        have c_A3_2 := cell_b c_A3_1 D2
        have T2 := Lib.hid (below_trans T1.out D2)
        have z2 : w1.heap.size ≤ w2.heap.size := (by have := hb.size; (try simp at this); omega)
        have ac_A0_2 := fun o => cell_b c_A0_2 (below_alloc _ o)
        have ac_A1_2 := fun o => cell_b c_A1_2 (below_alloc _ o)
        have ac_A2_2 := fun o => cell_b c_A2_2 (below_alloc _ o)
        have ac_A3_2 := fun o => cell_b c_A3_2 (below_alloc _ o)
        clear ac_A0_1 ac_A1_1 ac_A2_1 ac_A3_1 c_A0_1 c_A1_1 c_A2_1 c_A3_1 hb D2 T1
        go_wp2_with fail
        all_goals go_ret
        all_goals exact ⟨by first | rfl | (have q : xs ≠ [] := (fun h0 => by rw [h0] at hz'; exact absurd hz' (Nat.lt_irrefl 0)); first | (simp [q]; done) | (simp [q]; omega) | (simp_all; done)) | (simp; done) | (simp; omega) | simp_all, T2.out⟩
    · have ht' : thr o = false := by simpa using ht
      clear ht
      have e0 : oval 2 o k xs = false := by simp [oval, ht']
      rw [e0]; clear e0
      skip
      go_enter Try.func28, Try.ntmps28
      have T0 := Lib.hid (Below.refl w.heap.size w)
      go_wp2_with fail
      refine (same_b (S_l1Thread _ o)).mono ?_
      rintro e w1 ⟨rfl, hb⟩
      have D1 : Below w.heap.size w w1 := below_trans (below_alloc _ _) (hb)
      have T1 := Lib.hid (below_trans T0.out D1)
      have z1 : w.heap.size + 1 ≤ w1.heap.size := (by have := hb.size; (try simp at this); omega)
      have c_A0_1 := cell_b (p := ⟨w.heap.size, 0, none⟩) (v := .int .i64 2) (by simp) hb
      have c_A1_1 := cell_b (p := ⟨w.heap.size, 1, none⟩) (v := .int .i64 o) (by simp) hb
      have c_A2_1 := cell_b (p := ⟨w.heap.size, 2, none⟩) (v := .int .i64 k) (by simp) hb
      have c_A3_1 := cell_b (p := ⟨w.heap.size, 3, none⟩) (v := .slice a xs.length cap) (by simp) hb
      have ac_A0_1 := fun o => cell_b c_A0_1 (below_alloc _ o)
      have ac_A1_1 := fun o => cell_b c_A1_1 (below_alloc _ o)
      have ac_A2_1 := fun o => cell_b c_A2_1 (below_alloc _ o)
      have ac_A3_1 := fun o => cell_b c_A3_1 (below_alloc _ o)
      clear hb D1 T0
      go_wp2_with fail
      all_goals go_ret
      all_goals exact ⟨by first | rfl | (have q : xs ≠ [] := (fun h0 => by rw [h0] at hz'; exact absurd hz' (Nat.lt_irrefl 0)); first | (simp [q]; done) | (simp [q]; omega) | (simp_all; done)) | (simp; done) | (simp; omega) | simp_all, T1.out⟩
  have e0 : oval s o k xs = false := by simp [oval, h0, h1, h2]
  rw [e0]; clear e0
  skip
  go_enter Try.func28, Try.ntmps28
  have T0 := Lib.hid (Below.refl w.heap.size w)
  go_wp2_with fail
  all_goals go_ret
  all_goals exact ⟨by first | rfl | (have q : xs ≠ [] := (fun h0 => by rw [h0] at hz'; exact absurd hz' (Nat.lt_irrefl 0)); first | (simp [q]; done) | (simp [q]; omega) | (simp_all; done)) | (simp; done) | (simp; omega) | simp_all, (below_trans T0.out (below_alloc _ _))⟩
end Go.Proofs.Ytgdhbhgkfcgjdaa
