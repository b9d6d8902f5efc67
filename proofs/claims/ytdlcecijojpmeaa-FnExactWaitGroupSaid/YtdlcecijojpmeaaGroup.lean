/- Contracts of the functions over groups. -/
import Derived.Test.YtdlcecijojpmeaaLeaf
import Derived.Test.YtdlcecijojpmeaaValue
namespace Go.Proofs.Ytdlcecijojpmeaa
open Go.RowKit

set_option maxHeartbeats 400000 in
theorem L_szGroup_ok (w : World) (p0 : Int) (a : Option Addr) (n cap : Nat) (l : Int) (h : n ≤ l) (h2 : l ≤ 4294967296) :
    Calls Try.prog 11 #[.agg #[.int .i64 p0, .slice a n cap], .int .i64 l] w fun e w' => e = .returned (.int .i64 (l - n)) ∧ Below w.heap.size w w' := by
  go_enter Try.func11, Try.ntmps11
  go_wp2_with (go_at_call 40; refine (L_szIntS_ok _ _ _ _ _ h h2).mono ?_; rintro e w' ⟨rfl, rfl⟩)
  go_ret
  exact ⟨rfl, (Below.refl _ _).alloc (Nat.le_refl _) _⟩
set_option maxHeartbeats 400000 in
theorem L_szGroup_no (w : World) (p0 : Int) (a : Option Addr) (n cap : Nat) (l : Int) (h : l < n) (h2 : 0 ≤ l) (hn : n ≤ 9223372036854775807) :
    Calls Try.prog 11 #[.agg #[.int .i64 p0, .slice a n cap], .int .i64 l] w fun e w' => e = .returned (.int .i64 (-1)) ∧ Below w.heap.size w w' := by
  go_enter Try.func11, Try.ntmps11
  go_wp2_with (go_at_call 40; refine (L_szIntS_no _ _ _ _ _ h h2 hn).mono ?_; rintro e w' ⟨rfl, rfl⟩)
  go_ret
  exact ⟨rfl, (Below.refl _ _).alloc (Nat.le_refl _) _⟩

set_option maxHeartbeats 400000 in
theorem L_eqGroup (w : World) (p0 : Int) (v u : Value) (xs ys : List Int) (hr : Rd w v xs) (hs : Rd w u ys) (hl : xs.length ≤ 4294967296) (hl' : ys.length ≤ 4294967296) :
    Calls Try.prog 15 #[.agg #[.int .i64 p0, v], .agg #[.int .i64 p0, u]] w fun e w' => e = .returned (.bool (eqB xs ys)) ∧ Below w.heap.size w w' := by
  have hr0 := Lib.hid hr
  have hs0 := Lib.hid hs
  obtain ⟨a, cap, rfl, hcap, hnc, hr⟩ := hr
  obtain ⟨b, cap', rfl, hcap', hnc', hs⟩ := hs
  clear hr hnc hs hnc'
  by_cases hq : eqB xs ys = true
  all_goals
    go_enter Try.func15, Try.ntmps15
    go_wp2_with (go_at_call 27; refine (L_eqIntS _ _ _ xs ys (rd_alloc (rd_alloc hr0.out _) _) (rd_alloc (rd_alloc hs0.out _) _) hl hl').mono ?_; rintro e w' ⟨rfl, n, rfl⟩)
    go_ret
    exact ⟨by first | (rw [hq]; rfl) | (rw [eq_false_of_ne_true hq]; rfl), ((below_alloc _ _).trans ((below_alloc _ _).mono (by simp))).trans ((drewN_below _ _).mono (by simp; omega))⟩

set_option maxHeartbeats 4000000 in
theorem L_toGroup (w : World) (p0 : Int) (v : Value) (xs : List Int) (hr : Rd w v xs) (hl : xs.length ≤ 4294967296) :
    Calls Try.prog 13 #[.agg #[.int .i64 p0, v]] w fun e w' => ∃ a cap, e = .returned (.agg #[.int .i64 p0, .slice a xs.length cap]) ∧ Ow w' w.heap.size (.slice a xs.length cap) xs ∧ Below w.heap.size w w' := by
  have hr0 := Lib.hid hr
  obtain ⟨a, cap, rfl, hcap, hnc, hr⟩ := hr
  clear hr hnc
  go_enter Try.func13, Try.ntmps13
  go_wp2_with (go_at_call 42; refine (L_toIntS _ _ xs (rd_alloc (rd_alloc (rd_alloc hr0.out _) _) _) hl).mono ?_; rintro e w1 ⟨a', c', rfl, how, hb⟩; obtain ⟨hc, hf⟩ := bcell hb; have HO := Lib.hid (own_base how (show w.heap.size + 3 ≤ _ by simp)); have HB := Lib.hid hb; clear how hb)
  refine bodyPost_ret (v := .agg #[.int .i64 p0, (.slice a' xs.length c')]) (by simp [results, Try.results13, go_sem, hc]) rfl ⟨_, _, rfl, ?_, (by have B0 := below_trans (below_alloc _ _) (below_trans (below_alloc _ _) (below_trans (below_alloc _ _) HB.out)); (repeat (refine Below.setCell ?_ (by simp; try omega) _)); exact B0)⟩
  refine own_base (b := w.heap.size + 3) ?_ (by omega)
  repeat (first | exact HO.out | refine ownsRow_setCell_below ?_ (by simp) _)

set_option maxHeartbeats 400000 in
theorem L_markGroup (w : World) (b : Nat) (p0 : Int) (v : Value) (xs : List Int) (k : Int) (hr : Ow w b v xs) (hl : xs.length ≤ 4294967296) (hk0 : 0 ≤ k) (hk1 : k ≤ 1099511627776) :
    Calls Try.prog 28 #[.agg #[.int .i64 p0, v], .int .i64 k] w fun e w' => e = .returned (.int .i64 (k + xs.length)) ∧ Ow w' b v (marks k xs.length) ∧ w.grownBy w' v.ownBlock := by
  have HR := Lib.hid hr
  obtain ⟨a, cap, rfl⟩ := own_shape hr
  clear hr
  go_enter Try.func28, Try.ntmps28
  go_wp2_with fail
  refine (L_markIntS _ b _ xs _ (own_below HR.out (below_alloc _ _)) hl hk0 hk1).mono ?_
  rintro e w1 ⟨rfl, ho, hg⟩
  have G := Lib.hid ((World.grownBy_alloc _ _ _).trans hg)
  have O := Lib.hid ho
  clear ho hg
  go_wp2_with fail
  go_ret
  exact ⟨rfl, O.out, G.out⟩

set_option maxHeartbeats 400000 in
theorem L_heldGroup (w : World) (p0 : Int) (v : Value) (n : Nat) (k : Int) (hr : Rd w v (marks k n)) (hl : n ≤ 4294967296) (hk0 : 0 ≤ k) (hk1 : k ≤ 1099511627776) :
    Calls Try.prog 30 #[.agg #[.int .i64 p0, v], .int .i64 k] w fun e w' => e = .returned (.int .i64 (k + n)) ∧ Below w.heap.size w w' := by
  have HR := Lib.hid hr
  obtain ⟨a, cap, rfl, hcap, hnc, hr⟩ := hr
  clear hr hnc
  go_enter Try.func30, Try.ntmps30
  go_wp2_with fail
  refine (L_heldIntS _ _ n _ (rd_alloc HR.out _) hl hk0 hk1).mono ?_
  rintro e w1 ⟨rfl, rfl⟩
  go_wp2_with fail
  go_ret
  exact ⟨rfl, below_alloc _ _⟩

set_option maxHeartbeats 1000000 in
theorem I_GroupSame (w : World) (p0 q0 : Int) (v : Value) (xs : List Int) (u : Value) (ys : List Int) (hr : Rd w v xs) (hs : Rd w u ys) (hl : xs.length ≤ 4294967296) (hl' : ys.length ≤ 4294967296) :
    Calls Try.prog 14 #[.agg #[.int .i64 p0, v], .agg #[.int .i64 q0, u]] w fun e w' => e = .returned (.bool (decide (p0 = q0) && eqB xs ys)) ∧ Below w.heap.size w w' := by
  have HR := Lib.hid hr
  have HS := Lib.hid hs
  obtain ⟨a, cap, rfl, hcap, hnc, hr⟩ := hr
  obtain ⟨b, cap', rfl, hcap', hnc', hs⟩ := hs
  clear hr hnc hs hnc'
  by_cases h0 : p0 = q0
  · subst h0
    have e0 : (decide (p0 = p0) && eqB xs ys) = eqB xs ys := by simp
    rw [e0]; clear e0
    go_enter Try.func14, Try.ntmps14
    go_wp2_with fail
    refine (drew_b (slices_Equal _ _ _ xs ys (rd_alloc (rd_alloc HR.out _) _) (rd_alloc (rd_alloc HS.out _) _) hl hl')).mono ?_
    rintro e w1 ⟨rfl, hb⟩
    have HB := Lib.hid (below_trans (below_alloc _ _) (below_trans (below_alloc _ _) hb))
    clear hb
    go_wp2_with fail
    go_ret
    exact ⟨rfl, HB.out⟩
  · have h0' : ¬ p0 = q0 := h0
    have e0 : (decide (p0 = q0) && eqB xs ys) = false := by simp [h0']
    rw [e0]; clear e0
    go_enter Try.func14, Try.ntmps14
    go_wp2_with fail
    go_ret
    exact ⟨rfl, below_trans (below_alloc _ _) (below_alloc _ _)⟩

set_option maxHeartbeats 1000000 in
theorem S_GroupSame (w : World) (p0 q0 : Int) (v : Value) (xs : List Int) (u : Value) (ys : List Int) (hr : Rd w v xs) (hs : Rd w u ys) (hl : xs.length ≤ 4294967296) (hl' : ys.length ≤ 4294967296) :
    Calls Try.prog 12 #[.agg #[.int .i64 p0, v], .agg #[.int .i64 q0, u]] w fun e w' => e = .returned (.bool (decide (p0 = q0) && eqB xs ys)) ∧ Below w.heap.size w w' := by
  have HR := Lib.hid hr
  have HS := Lib.hid hs
  obtain ⟨a, cap, rfl, hcap, hnc, hr⟩ := hr
  obtain ⟨b, cap', rfl, hcap', hnc', hs⟩ := hs
  clear hr hnc hs hnc'
  by_cases h0 : p0 = q0
  · subst h0
    have e0 : (decide (p0 = p0) && eqB xs ys) = eqB xs ys := by simp
    rw [e0]; clear e0
    go_enter Try.func12, Try.ntmps12
    go_wp2_with fail
    refine (drew_b (S_l2Ints _ _ _ xs ys (rd_alloc (rd_alloc HR.out _) _) (rd_alloc (rd_alloc HS.out _) _) hl hl')).mono ?_
    rintro e w1 ⟨rfl, hb⟩
    have HB := Lib.hid (below_trans (below_alloc _ _) (below_trans (below_alloc _ _) hb))
    clear hb
    go_wp2_with fail
    go_ret
    exact ⟨rfl, HB.out⟩
  · have h0' : ¬ p0 = q0 := h0
    have e0 : (decide (p0 = q0) && eqB xs ys) = false := by simp [h0']
    rw [e0]; clear e0
    go_enter Try.func12, Try.ntmps12
    go_wp2_with fail
    go_ret
    exact ⟨rfl, below_trans (below_alloc _ _) (below_alloc _ _)⟩

/-- Is the group valid? -/
def gval (c : Int) (xs : List Int) : Bool := val c && vt xs && (decide (0 < c) || decide (xs.length = 0))
theorem gval_in {c : Int} {xs : List Int} (h : gval c xs = true) : 0 ≤ c ∧ c ≤ 99 ∧ xs.length ≤ 6 ∧ (c = 0 → xs = []) := by
  unfold gval at h; simp only [Bool.and_eq_true, Bool.or_eq_true, decide_eq_true_eq] at h
  obtain ⟨⟨h1, h2⟩, h3⟩ := h; have h4 := val_in h1; have h5 := vt_len h2
  exact ⟨h4.1, h4.2, h5, fun hc => List.eq_nil_of_length_eq_zero (by omega)⟩

set_option maxHeartbeats 4000000 in
theorem I_GroupValid (w : World) (c : Int) (v : Value) (xs : List Int) (hr : Rd w v xs) (hl : xs.length ≤ 4294967296) :
    Calls Try.prog 22 #[.agg #[.int .i64 c, v]] w fun e w' => e = .returned (.bool (gval c xs)) ∧ Below w.heap.size w w' := by
  have HR := Lib.hid hr
  obtain ⟨a, cap, rfl, hcap, hnc, hr⟩ := hr
  clear hr hnc
  by_cases hv : val c = true
  · by_cases h6 : xs.length ≤ 6
    · by_cases hd : dist xs = true
      · by_cases hc : 0 < c
        · have e0 : gval c xs = true := by simp [gval, hv, vt_dist h6, hd, hc]
          rw [e0]; clear e0
          skip
          go_enter Try.func22, Try.ntmps22
          have T0 := Lib.hid (Below.refl w.heap.size w)
          go_wp2_with fail
          refine (same_b (I_isValue _ c)).mono ?_
          rintro e w1 ⟨rfl, hb⟩
          have D1 : Below w.heap.size w w1 := below_trans (below_alloc _ _) (hb)
          have T1 := Lib.hid (below_trans T0.out D1)
          have z1 : w.heap.size + 1 ≤ w1.heap.size := (by have := hb.size; (try simp at this); omega)
          have c_A0_1 := cell_b (p := ⟨w.heap.size, 0, none⟩) (v := .int .i64 c) (by simp) hb
          have c_A1_1 := cell_b (p := ⟨w.heap.size, 1, none⟩) (v := .slice a xs.length cap) (by simp) hb
          have ac_A0_1 := fun o => cell_b c_A0_1 (below_alloc _ o)
          have ac_A1_1 := fun o => cell_b c_A1_1 (below_alloc _ o)
          clear hb D1 T0
          go_wp2_with fail
          refine (I_distinctThreads _ _ xs (rd_below HR.out T1.out) (by omega)).mono ?_
          rintro e w2 ⟨rfl, hb⟩
          have D2 : Below w1.heap.size w1 w2 := hb
          have c_A0_2 := cell_b c_A0_1 D2
          have c_A1_2 := cell_b c_A1_1 D2
          have T2 := Lib.hid (below_trans T1.out D2)
          have z2 : w1.heap.size ≤ w2.heap.size := (by have := hb.size; (try simp at this); omega)
          have ac_A0_2 := fun o => cell_b c_A0_2 (below_alloc _ o)
          have ac_A1_2 := fun o => cell_b c_A1_2 (below_alloc _ o)
          clear ac_A0_1 ac_A1_1 c_A0_1 c_A1_1 hb D2 T1
          go_wp2_with fail
          all_goals go_ret
          all_goals exact ⟨by first | rfl | (have q : xs ≠ [] := (fun h0 => by rw [h0] at hz'; exact absurd hz' (Nat.lt_irrefl 0)); first | (simp [q]; done) | (simp [q]; omega) | (simp_all; done)) | (simp; done) | (simp; omega) | simp_all, T2.out⟩
        · have hc' : c ≤ 0 := by omega
          clear hc
          by_cases hz : xs.length = 0
          · have e0 : gval c xs = true := by simp [gval, hv, vt_dist h6, hd, hz]
            rw [e0]; clear e0
            obtain rfl := List.eq_nil_of_length_eq_zero hz
            go_enter Try.func22, Try.ntmps22
            have T0 := Lib.hid (Below.refl w.heap.size w)
            go_wp2_with fail
            refine (same_b (I_isValue _ c)).mono ?_
            rintro e w1 ⟨rfl, hb⟩
            have D1 : Below w.heap.size w w1 := below_trans (below_alloc _ _) (hb)
            have T1 := Lib.hid (below_trans T0.out D1)
            have z1 : w.heap.size + 1 ≤ w1.heap.size := (by have := hb.size; (try simp at this); omega)
            have c_A0_1 := cell_b (p := ⟨w.heap.size, 0, none⟩) (v := .int .i64 c) (by simp) hb
            have c_A1_1 := cell_b (p := ⟨w.heap.size, 1, none⟩) (v := .slice a 0 cap) (by simp) hb
            have ac_A0_1 := fun o => cell_b c_A0_1 (below_alloc _ o)
            have ac_A1_1 := fun o => cell_b c_A1_1 (below_alloc _ o)
            clear hb D1 T0
            go_wp2_with fail
            refine (I_distinctThreads _ _ [] (rd_below HR.out T1.out) (by omega)).mono ?_
            rintro e w2 ⟨rfl, hb⟩
            have D2 : Below w1.heap.size w1 w2 := hb
            have c_A0_2 := cell_b c_A0_1 D2
            have c_A1_2 := cell_b c_A1_1 D2
            have T2 := Lib.hid (below_trans T1.out D2)
            have z2 : w1.heap.size ≤ w2.heap.size := (by have := hb.size; (try simp at this); omega)
            have ac_A0_2 := fun o => cell_b c_A0_2 (below_alloc _ o)
            have ac_A1_2 := fun o => cell_b c_A1_2 (below_alloc _ o)
            clear ac_A0_1 ac_A1_1 c_A0_1 c_A1_1 hb D2 T1
            go_wp2_with fail
            all_goals go_ret
            all_goals exact ⟨by first | rfl | (have q : [] ≠ [] := (fun h0 => by rw [h0] at hz'; exact absurd hz' (Nat.lt_irrefl 0)); first | (simp [q]; done) | (simp [q]; omega) | (simp_all; done)) | (simp; done) | (simp; omega) | simp_all, T2.out⟩
          · have hz' : 0 < xs.length := by omega
            clear hz
            have e0 : gval c xs = false := by simp [gval, hv, vt_dist h6, hd]; exact ⟨hc', fun h0 => by simp [h0] at hz'⟩
            rw [e0]; clear e0
            skip
            go_enter Try.func22, Try.ntmps22
            have T0 := Lib.hid (Below.refl w.heap.size w)
            go_wp2_with fail
            refine (same_b (I_isValue _ c)).mono ?_
            rintro e w1 ⟨rfl, hb⟩
            have D1 : Below w.heap.size w w1 := below_trans (below_alloc _ _) (hb)
            have T1 := Lib.hid (below_trans T0.out D1)
            have z1 : w.heap.size + 1 ≤ w1.heap.size := (by have := hb.size; (try simp at this); omega)
            have c_A0_1 := cell_b (p := ⟨w.heap.size, 0, none⟩) (v := .int .i64 c) (by simp) hb
            have c_A1_1 := cell_b (p := ⟨w.heap.size, 1, none⟩) (v := .slice a xs.length cap) (by simp) hb
            have ac_A0_1 := fun o => cell_b c_A0_1 (below_alloc _ o)
            have ac_A1_1 := fun o => cell_b c_A1_1 (below_alloc _ o)
            clear hb D1 T0
            go_wp2_with fail
            refine (I_distinctThreads _ _ xs (rd_below HR.out T1.out) (by omega)).mono ?_
            rintro e w2 ⟨rfl, hb⟩
            have D2 : Below w1.heap.size w1 w2 := hb
            have c_A0_2 := cell_b c_A0_1 D2
            have c_A1_2 := cell_b c_A1_1 D2
            have T2 := Lib.hid (below_trans T1.out D2)
            have z2 : w1.heap.size ≤ w2.heap.size := (by have := hb.size; (try simp at this); omega)
            have ac_A0_2 := fun o => cell_b c_A0_2 (below_alloc _ o)
            have ac_A1_2 := fun o => cell_b c_A1_2 (below_alloc _ o)
            clear ac_A0_1 ac_A1_1 c_A0_1 c_A1_1 hb D2 T1
            go_wp2_with fail
            all_goals go_ret
            all_goals exact ⟨by first | rfl | (have q : xs ≠ [] := (fun h0 => by rw [h0] at hz'; exact absurd hz' (Nat.lt_irrefl 0)); first | (simp [q]; done) | (simp [q]; omega) | (simp_all; done)) | (simp; done) | (simp; omega) | simp_all, T2.out⟩
      · have hd' : dist xs = false := by simpa using hd
        clear hd
        have e0 : gval c xs = false := by simp [gval, hv, vt_bad hd']
        rw [e0]; clear e0
        skip
        go_enter Try.func22, Try.ntmps22
        have T0 := Lib.hid (Below.refl w.heap.size w)
        go_wp2_with fail
        refine (same_b (I_isValue _ c)).mono ?_
        rintro e w1 ⟨rfl, hb⟩
        have D1 : Below w.heap.size w w1 := below_trans (below_alloc _ _) (hb)
        have T1 := Lib.hid (below_trans T0.out D1)
        have z1 : w.heap.size + 1 ≤ w1.heap.size := (by have := hb.size; (try simp at this); omega)
        have c_A0_1 := cell_b (p := ⟨w.heap.size, 0, none⟩) (v := .int .i64 c) (by simp) hb
        have c_A1_1 := cell_b (p := ⟨w.heap.size, 1, none⟩) (v := .slice a xs.length cap) (by simp) hb
        have ac_A0_1 := fun o => cell_b c_A0_1 (below_alloc _ o)
        have ac_A1_1 := fun o => cell_b c_A1_1 (below_alloc _ o)
        clear hb D1 T0
        go_wp2_with fail
        refine (I_distinctThreads _ _ xs (rd_below HR.out T1.out) (by omega)).mono ?_
        rintro e w2 ⟨rfl, hb⟩
        have D2 : Below w1.heap.size w1 w2 := hb
        have c_A0_2 := cell_b c_A0_1 D2
        have c_A1_2 := cell_b c_A1_1 D2
        have T2 := Lib.hid (below_trans T1.out D2)
        have z2 : w1.heap.size ≤ w2.heap.size := (by have := hb.size; (try simp at this); omega)
        have ac_A0_2 := fun o => cell_b c_A0_2 (below_alloc _ o)
        have ac_A1_2 := fun o => cell_b c_A1_2 (below_alloc _ o)
        clear ac_A0_1 ac_A1_1 c_A0_1 c_A1_1 hb D2 T1
        go_wp2_with fail
        all_goals go_ret
        all_goals exact ⟨by first | rfl | (have q : xs ≠ [] := (fun h0 => by rw [h0] at hz'; exact absurd hz' (Nat.lt_irrefl 0)); first | (simp [q]; done) | (simp [q]; omega) | (simp_all; done)) | (simp; done) | (simp; omega) | simp_all, T2.out⟩
    · have h6' : 6 < xs.length := by omega
      clear h6
      have e0 : gval c xs = false := by simp [gval, hv, vt_long h6']
      rw [e0]; clear e0
      skip
      go_enter Try.func22, Try.ntmps22
      have T0 := Lib.hid (Below.refl w.heap.size w)
      go_wp2_with fail
      refine (same_b (I_isValue _ c)).mono ?_
      rintro e w1 ⟨rfl, hb⟩
      have D1 : Below w.heap.size w w1 := below_trans (below_alloc _ _) (hb)
      have T1 := Lib.hid (below_trans T0.out D1)
      have z1 : w.heap.size + 1 ≤ w1.heap.size := (by have := hb.size; (try simp at this); omega)
      have c_A0_1 := cell_b (p := ⟨w.heap.size, 0, none⟩) (v := .int .i64 c) (by simp) hb
      have c_A1_1 := cell_b (p := ⟨w.heap.size, 1, none⟩) (v := .slice a xs.length cap) (by simp) hb
      have ac_A0_1 := fun o => cell_b c_A0_1 (below_alloc _ o)
      have ac_A1_1 := fun o => cell_b c_A1_1 (below_alloc _ o)
      clear hb D1 T0
      go_wp2_with fail
      all_goals go_ret
      all_goals exact ⟨by first | rfl | (have q : xs ≠ [] := (fun h0 => by rw [h0] at hz'; exact absurd hz' (Nat.lt_irrefl 0)); first | (simp [q]; done) | (simp [q]; omega) | (simp_all; done)) | (simp; done) | (simp; omega) | simp_all, T1.out⟩
  · have hv' : val c = false := by simpa using hv
    clear hv
    have e0 : gval c xs = false := by simp [gval, hv']
    rw [e0]; clear e0
    skip
    go_enter Try.func22, Try.ntmps22
    have T0 := Lib.hid (Below.refl w.heap.size w)
    go_wp2_with fail
    refine (same_b (I_isValue _ c)).mono ?_
    rintro e w1 ⟨rfl, hb⟩
    have D1 : Below w.heap.size w w1 := below_trans (below_alloc _ _) (hb)
    have T1 := Lib.hid (below_trans T0.out D1)
    have z1 : w.heap.size + 1 ≤ w1.heap.size := (by have := hb.size; (try simp at this); omega)
    have c_A0_1 := cell_b (p := ⟨w.heap.size, 0, none⟩) (v := .int .i64 c) (by simp) hb
    have c_A1_1 := cell_b (p := ⟨w.heap.size, 1, none⟩) (v := .slice a xs.length cap) (by simp) hb
    have ac_A0_1 := fun o => cell_b c_A0_1 (below_alloc _ o)
    have ac_A1_1 := fun o => cell_b c_A1_1 (below_alloc _ o)
    clear hb D1 T0
    go_wp2_with fail
    all_goals go_ret
    all_goals exact ⟨by first | rfl | (have q : xs ≠ [] := (fun h0 => by rw [h0] at hz'; exact absurd hz' (Nat.lt_irrefl 0)); first | (simp [q]; done) | (simp [q]; omega) | (simp_all; done)) | (simp; done) | (simp; omega) | simp_all, T1.out⟩

set_option maxHeartbeats 4000000 in
theorem S_GroupValid (w : World) (c : Int) (v : Value) (xs : List Int) (hr : Rd w v xs) (hl : xs.length ≤ 4294967296) :
    Calls Try.prog 21 #[.agg #[.int .i64 c, v]] w fun e w' => e = .returned (.bool (gval c xs)) ∧ Below w.heap.size w w' := by
  have HR := Lib.hid hr
  obtain ⟨a, cap, rfl, hcap, hnc, hr⟩ := hr
  clear hr hnc
  by_cases hv : val c = true
  · by_cases hd : vt xs = true
    · by_cases hc : 0 < c
      · have e0 : gval c xs = true := by simp [gval, hv, hd, hc]
        rw [e0]; clear e0
        skip
        go_enter Try.func21, Try.ntmps21
        have T0 := Lib.hid (Below.refl w.heap.size w)
        go_wp2_with fail
        refine (same_b (S_l2Value _ c)).mono ?_
        rintro e w1 ⟨rfl, hb⟩
        have D1 : Below w.heap.size w w1 := below_trans (below_alloc _ _) (hb)
        have T1 := Lib.hid (below_trans T0.out D1)
        have z1 : w.heap.size + 1 ≤ w1.heap.size := (by have := hb.size; (try simp at this); omega)
        have c_A0_1 := cell_b (p := ⟨w.heap.size, 0, none⟩) (v := .int .i64 c) (by simp) hb
        have c_A1_1 := cell_b (p := ⟨w.heap.size, 1, none⟩) (v := .slice a xs.length cap) (by simp) hb
        have ac_A0_1 := fun o => cell_b c_A0_1 (below_alloc _ o)
        have ac_A1_1 := fun o => cell_b c_A1_1 (below_alloc _ o)
        clear hb D1 T0
        go_wp2_with fail
        refine (drew_b (S_l2Waits _ _ xs (rd_below HR.out T1.out) (by omega))).mono ?_
        rintro e w2 ⟨rfl, hb⟩
        have D2 : Below w1.heap.size w1 w2 := hb
        have c_A0_2 := cell_b c_A0_1 D2
        have c_A1_2 := cell_b c_A1_1 D2
        have T2 := Lib.hid (below_trans T1.out D2)
        have z2 : w1.heap.size ≤ w2.heap.size := (by have := hb.size; (try simp at this); omega)
        have ac_A0_2 := fun o => cell_b c_A0_2 (below_alloc _ o)
        have ac_A1_2 := fun o => cell_b c_A1_2 (below_alloc _ o)
        clear ac_A0_1 ac_A1_1 c_A0_1 c_A1_1 hb D2 T1
        go_wp2_with fail
        all_goals go_ret
        all_goals exact ⟨by first | rfl | (have q : xs ≠ [] := (fun h0 => by rw [h0] at hz'; exact absurd hz' (Nat.lt_irrefl 0)); first | (simp [q]; done) | (simp [q]; omega) | (simp_all; done)) | (simp; done) | (simp; omega) | simp_all, T2.out⟩
      · have hc' : c ≤ 0 := by omega
        clear hc
        by_cases hz : xs.length = 0
        · have e0 : gval c xs = true := by simp [gval, hv, hd, hz]
          rw [e0]; clear e0
          obtain rfl := List.eq_nil_of_length_eq_zero hz
          go_enter Try.func21, Try.ntmps21
          have T0 := Lib.hid (Below.refl w.heap.size w)
          go_wp2_with fail
          refine (same_b (S_l2Value _ c)).mono ?_
          rintro e w1 ⟨rfl, hb⟩
          have D1 : Below w.heap.size w w1 := below_trans (below_alloc _ _) (hb)
          have T1 := Lib.hid (below_trans T0.out D1)
          have z1 : w.heap.size + 1 ≤ w1.heap.size := (by have := hb.size; (try simp at this); omega)
          have c_A0_1 := cell_b (p := ⟨w.heap.size, 0, none⟩) (v := .int .i64 c) (by simp) hb
          have c_A1_1 := cell_b (p := ⟨w.heap.size, 1, none⟩) (v := .slice a 0 cap) (by simp) hb
          have ac_A0_1 := fun o => cell_b c_A0_1 (below_alloc _ o)
          have ac_A1_1 := fun o => cell_b c_A1_1 (below_alloc _ o)
          clear hb D1 T0
          go_wp2_with fail
          refine (drew_b (S_l2Waits _ _ [] (rd_below HR.out T1.out) (by omega))).mono ?_
          rintro e w2 ⟨rfl, hb⟩
          have D2 : Below w1.heap.size w1 w2 := hb
          have c_A0_2 := cell_b c_A0_1 D2
          have c_A1_2 := cell_b c_A1_1 D2
          have T2 := Lib.hid (below_trans T1.out D2)
          have z2 : w1.heap.size ≤ w2.heap.size := (by have := hb.size; (try simp at this); omega)
          have ac_A0_2 := fun o => cell_b c_A0_2 (below_alloc _ o)
          have ac_A1_2 := fun o => cell_b c_A1_2 (below_alloc _ o)
          clear ac_A0_1 ac_A1_1 c_A0_1 c_A1_1 hb D2 T1
          go_wp2_with fail
          all_goals go_ret
          all_goals exact ⟨by first | rfl | (have q : [] ≠ [] := (fun h0 => by rw [h0] at hz'; exact absurd hz' (Nat.lt_irrefl 0)); first | (simp [q]; done) | (simp [q]; omega) | (simp_all; done)) | (simp; done) | (simp; omega) | simp_all, T2.out⟩
        · have hz' : 0 < xs.length := by omega
          clear hz
          have e0 : gval c xs = false := by simp [gval, hv, hd]; exact ⟨hc', fun h0 => by simp [h0] at hz'⟩
          rw [e0]; clear e0
          skip
          go_enter Try.func21, Try.ntmps21
          have T0 := Lib.hid (Below.refl w.heap.size w)
          go_wp2_with fail
          refine (same_b (S_l2Value _ c)).mono ?_
          rintro e w1 ⟨rfl, hb⟩
          have D1 : Below w.heap.size w w1 := below_trans (below_alloc _ _) (hb)
          have T1 := Lib.hid (below_trans T0.out D1)
          have z1 : w.heap.size + 1 ≤ w1.heap.size := (by have := hb.size; (try simp at this); omega)
          have c_A0_1 := cell_b (p := ⟨w.heap.size, 0, none⟩) (v := .int .i64 c) (by simp) hb
          have c_A1_1 := cell_b (p := ⟨w.heap.size, 1, none⟩) (v := .slice a xs.length cap) (by simp) hb
          have ac_A0_1 := fun o => cell_b c_A0_1 (below_alloc _ o)
          have ac_A1_1 := fun o => cell_b c_A1_1 (below_alloc _ o)
          clear hb D1 T0
          go_wp2_with fail
          refine (drew_b (S_l2Waits _ _ xs (rd_below HR.out T1.out) (by omega))).mono ?_
          rintro e w2 ⟨rfl, hb⟩
          have D2 : Below w1.heap.size w1 w2 := hb
          have c_A0_2 := cell_b c_A0_1 D2
          have c_A1_2 := cell_b c_A1_1 D2
          have T2 := Lib.hid (below_trans T1.out D2)
          have z2 : w1.heap.size ≤ w2.heap.size := (by have := hb.size; (try simp at this); omega)
          have ac_A0_2 := fun o => cell_b c_A0_2 (below_alloc _ o)
          have ac_A1_2 := fun o => cell_b c_A1_2 (below_alloc _ o)
          clear ac_A0_1 ac_A1_1 c_A0_1 c_A1_1 hb D2 T1
          go_wp2_with fail
          all_goals go_ret
          all_goals exact ⟨by first | rfl | (have q : xs ≠ [] := (fun h0 => by rw [h0] at hz'; exact absurd hz' (Nat.lt_irrefl 0)); first | (simp [q]; done) | (simp [q]; omega) | (simp_all; done)) | (simp; done) | (simp; omega) | simp_all, T2.out⟩
    · have hd' : vt xs = false := by simpa using hd
      clear hd
      have e0 : gval c xs = false := by simp [gval, hv, hd']
      rw [e0]; clear e0
      skip
      go_enter Try.func21, Try.ntmps21
      have T0 := Lib.hid (Below.refl w.heap.size w)
      go_wp2_with fail
      refine (same_b (S_l2Value _ c)).mono ?_
      rintro e w1 ⟨rfl, hb⟩
      have D1 : Below w.heap.size w w1 := below_trans (below_alloc _ _) (hb)
      have T1 := Lib.hid (below_trans T0.out D1)
      have z1 : w.heap.size + 1 ≤ w1.heap.size := (by have := hb.size; (try simp at this); omega)
      have c_A0_1 := cell_b (p := ⟨w.heap.size, 0, none⟩) (v := .int .i64 c) (by simp) hb
      have c_A1_1 := cell_b (p := ⟨w.heap.size, 1, none⟩) (v := .slice a xs.length cap) (by simp) hb
      have ac_A0_1 := fun o => cell_b c_A0_1 (below_alloc _ o)
      have ac_A1_1 := fun o => cell_b c_A1_1 (below_alloc _ o)
      clear hb D1 T0
      go_wp2_with fail
      refine (drew_b (S_l2Waits _ _ xs (rd_below HR.out T1.out) (by omega))).mono ?_
      rintro e w2 ⟨rfl, hb⟩
      have D2 : Below w1.heap.size w1 w2 := hb
      have c_A0_2 := cell_b c_A0_1 D2
      have c_A1_2 := cell_b c_A1_1 D2
      have T2 := Lib.hid (below_trans T1.out D2)
      have z2 : w1.heap.size ≤ w2.heap.size := (by have := hb.size; (try simp at this); omega)
      have ac_A0_2 := fun o => cell_b c_A0_2 (below_alloc _ o)
      have ac_A1_2 := fun o => cell_b c_A1_2 (below_alloc _ o)
      clear ac_A0_1 ac_A1_1 c_A0_1 c_A1_1 hb D2 T1
      go_wp2_with fail
      all_goals go_ret
      all_goals exact ⟨by first | rfl | (have q : xs ≠ [] := (fun h0 => by rw [h0] at hz'; exact absurd hz' (Nat.lt_irrefl 0)); first | (simp [q]; done) | (simp [q]; omega) | (simp_all; done)) | (simp; done) | (simp; omega) | simp_all, T2.out⟩
  · have hv' : val c = false := by simpa using hv
    clear hv
    have e0 : gval c xs = false := by simp [gval, hv']
    rw [e0]; clear e0
    skip
    go_enter Try.func21, Try.ntmps21
    have T0 := Lib.hid (Below.refl w.heap.size w)
    go_wp2_with fail
    refine (same_b (S_l2Value _ c)).mono ?_
    rintro e w1 ⟨rfl, hb⟩
    have D1 : Below w.heap.size w w1 := below_trans (below_alloc _ _) (hb)
    have T1 := Lib.hid (below_trans T0.out D1)
    have z1 : w.heap.size + 1 ≤ w1.heap.size := (by have := hb.size; (try simp at this); omega)
    have c_A0_1 := cell_b (p := ⟨w.heap.size, 0, none⟩) (v := .int .i64 c) (by simp) hb
    have c_A1_1 := cell_b (p := ⟨w.heap.size, 1, none⟩) (v := .slice a xs.length cap) (by simp) hb
    have ac_A0_1 := fun o => cell_b c_A0_1 (below_alloc _ o)
    have ac_A1_1 := fun o => cell_b c_A1_1 (below_alloc _ o)
    clear hb D1 T0
    go_wp2_with fail
    all_goals go_ret
    all_goals exact ⟨by first | rfl | (have q : xs ≠ [] := (fun h0 => by rw [h0] at hz'; exact absurd hz' (Nat.lt_irrefl 0)); first | (simp [q]; done) | (simp [q]; omega) | (simp_all; done)) | (simp; done) | (simp; omega) | simp_all, T1.out⟩
end Go.Proofs.Ytdlcecijojpmeaa
