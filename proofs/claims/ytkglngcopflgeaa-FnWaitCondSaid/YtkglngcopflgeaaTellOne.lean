/- Contracts of TellOne. -/
import Derived.Test.YtkglngcopflgeaaCond
import Derived.Deep.RegionHeld3
namespace Go.Proofs.Ytkglngcopflgeaa
open Go.RowKit
theorem rd_tail {w : World} {g off cap : Nat} {x : Int} {ys : List Int} (hg : g < w.heap.size) (hcap : (x :: ys).length ≤ cap)
    (hc : ∀ j, j < (x :: ys).length → w.cell? ⟨g, off + j, none⟩ = some (.int .i64 ((x :: ys).getD j 0))) (a : Nat) (ha : a = off + 1 ∨ ys = []) : Rd w (.slice (some ⟨g, a, none⟩) ys.length (cap - 1)) ys := by
  simp at hcap
  refine ⟨_, _, rfl, by omega, by simp, ?_⟩
  rcases ha with rfl | rfl
  · refine .inr ⟨g, off + 1, rfl, hg, fun j hj => ?_⟩
    have := hc (j + 1) (by simp; omega)
    rw [show off + (j + 1) = off + 1 + j by omega] at this
    rw [this]; simp
  · exact .inl rfl
set_option maxHeartbeats 4000000 in
theorem I_TellOne (w : World) (v : Value) (xs : List Int) (hr : Rd w v xs) (hl : xs.length ≤ 4294967296) :
    Calls Try.prog 25 #[.agg #[v]] w fun e w' => ∃ a cap b cap', e = .returned (.tuple #[.agg #[.slice a (okL (vt xs) xs.tail).length cap], .slice b (okL (vt xs) (xs.take 1)).length cap', .bool (vt xs)]) ∧
      Ow w' w.heap.size (.slice a (okL (vt xs) xs.tail).length cap) (okL (vt xs) xs.tail) ∧ Ow w' w.heap.size (.slice b (okL (vt xs) (xs.take 1)).length cap') (okL (vt xs) (xs.take 1)) ∧ NE (.slice a (okL (vt xs) xs.tail).length cap) (.slice b (okL (vt xs) (xs.take 1)).length cap') ∧ Below w.heap.size w w' := by
  have HR := Lib.hid hr
  obtain ⟨a, cap, rfl, hcap, hnc, hr⟩ := hr
  by_cases hv : vt xs = true
  · have hl6 := vt_len hv
    rcases xs with _ | ⟨x, ys⟩
    · rw [hv]
      clear hnc hr
      go_enter Try.func25, Try.ntmps25
      go_wp2_with fail
      refine (I_CondValid _ _ [] (rd_alloc (rd_alloc HR.out _) _) (by omega)).mono ?_
      rintro e w1 ⟨rfl, hb⟩
      have T1 := Lib.hid (below_trans (below_alloc _ _) (below_trans (below_alloc _ _) hb))
      have cA := cell_b (p := ⟨w.heap.size, 0, none⟩) (v := .slice a 0 cap) (by simp) hb
      have cR := cell_b (p := ⟨w.heap.size + 1, 0, none⟩) (v := .slice none 0 0) (by simp) hb
      have fR : w1.frozen? ⟨w.heap.size + 1, 0, none⟩ = false := (hb.frozen (p := ⟨w.heap.size + 1, 0, none⟩) (by simp; try omega)).trans (by simp)
      clear hb
      go_wp2_with fail
      exact bodyPost_ret (v := .tuple #[.agg #[.slice none 0 0], .slice none 0 0, .bool true]) (by simp [results, Try.results25, go_sem, cR]) rfl ⟨_, _, _, _, rfl, ow_nil _ _, ow_nil _ _, ne_nil _ _ _, T1.out.setCell (by simp) _⟩
    · rcases hr with hr | ⟨g, off, rfl, hg, hc⟩
      · simp at hr
      rw [hv, okL_true, okL_true]
      have c0 := hc 0 (by simp)
      simp only [Nat.add_zero, List.getD_cons_zero] at c0
      have HC := Lib.hid hc
      clear hc hnc
      by_cases hc1 : cap = 1
      · subst hc1
        obtain rfl : ys = [] := by simp at hcap; exact hcap
        go_enter Try.func25, Try.ntmps25
        have T0 := Lib.hid (Below.refl w.heap.size w)
        go_wp2_with fail
        refine (I_CondValid _ _ [x] (rd_alloc (rd_alloc (rd_below HR.out T0.out) _) _) (by omega)).mono ?_
        rintro e w1 ⟨rfl, hb⟩
        have D1 : Below w.heap.size w w1 := below_trans (below_alloc _ _) (below_trans (below_alloc _ _) (hb))
        have T1 := Lib.hid (below_trans T0.out D1)
        have z1 : w.heap.size + 2 ≤ w1.heap.size := (by have := hb.size; (try simp at this); omega)
        have cA := cell_b (p := ⟨w.heap.size, 0, none⟩) (v := .slice (some ⟨g, off, none⟩) 1 1) (by simp) hb
        have cR := cell_b (p := ⟨w.heap.size + 1, 0, none⟩) (v := .slice none 0 0) (by simp) hb
        have fR : w1.frozen? ⟨w.heap.size + 1, 0, none⟩ = false := (hb.frozen (p := ⟨w.heap.size + 1, 0, none⟩) (by simp; try omega)).trans (by simp)
        have cE := cell_b c0 D1
        have HT := Lib.hid (rd_tail (w := w1) (off := off) (cap := 1) (x := x) (ys := []) (Nat.lt_of_lt_of_le hg D1.size) hcap (fun j hj => cell_b (HC.out j hj) D1) off (.inr rfl))
        have aA := fun o => cell_b cA (below_alloc _ o)
        have aE := fun o => cell_b cE (below_alloc _ o)
        have aR := fun o => cell_b cR (below_alloc _ o)
        have gR := fun o => frz_b (cell_lt cR) fR (below_alloc _ o)
        have bR := fun o o1 => cell_b (aR o) (below_alloc _ o1)
        have hR := fun o o1 => frz_b (cell_lt (aR o)) (gR o) (below_alloc _ o1)
        have bA := fun o o1 => cell_b (aA o) (below_alloc _ o1)
        have bE := fun o o1 => cell_b (aE o) (below_alloc _ o1)
        have i5 : ¬ g = w.heap.size + 1 := by omega
        have i6 : ¬ w.heap.size + 1 = g := by omega
        clear hb D1 T0 c0
        go_wp2_with fail
        go_region_held3 (fun w' => w'.cell? ⟨w.heap.size, 0, none⟩ = some (.slice (some ⟨g, off, none⟩) 1 1) ∧ w'.cell? ⟨g, off, none⟩ = some (.int .i64 x)) (first | exact ⟨cA, cE⟩ | exact ⟨aA _, aE _⟩ | exact ⟨cA2, cE2⟩ | exact ⟨aA2 _, aE2 _⟩ | go_keep)
          (first | (go_at_call 38; refine (I_cloneInts _ _ [] (by first | exact rd_drew HT.out | exact rd_alloc (rd_drew HT.out) _) (by first | omega | (simp at hl6; omega) | simp)).mono ?_; rintro e w2 ⟨a2, cap2, rfl, hd, hb⟩; have cA2 := cell_b (p := ⟨w.heap.size, 0, none⟩) (v := .slice (some ⟨g, off, none⟩) 1 1) (by first | exact cA | exact aA _) hb; have cE2 := cell_b (p := ⟨g, off, none⟩) (v := .int .i64 x) (by first | exact cE | exact aE _) hb; have cR2 := cell_b (p := ⟨w.heap.size + 1, 0, none⟩) (v := .slice none 0 0) (by first | exact cR | exact aR _) hb; have fR2 := frz_b (p := ⟨w.heap.size + 1, 0, none⟩) (cell_lt (v := .slice none 0 0) (by first | exact cR | exact aR _)) (by first | exact fR | exact gR _) hb; have aA2 := fun o => cell_b cA2 (below_alloc _ o); have aE2 := fun o => cell_b cE2 (below_alloc _ o); have aR2 := fun o => cell_b cR2 (below_alloc _ o); have gR2 := fun o => frz_b (cell_lt cR2) fR2 (below_alloc _ o); have HD := Lib.hid (own_base hd (show w1.heap.size ≤ _ by first | exact Nat.le_refl _ | (simp; done) | exact Nat.le_succ _)); have TB := Lib.hid (below_trans T1.out (by first | exact below_trans (drew_below _) hb | exact below_trans (below_alloc _ _) (below_trans (drew_below _) hb) | exact below_trans (drew_below _) (below_trans (below_alloc _ _) hb))); have z2 : w1.heap.size ≤ w2.heap.size := (by have := hb.size; (try simp at this); first | exact this | omega | exact Nat.le_trans (Nat.le_succ _) this); have HB := Lib.hid hb; have HL := Lib.hid (own_lo hd); clear hd hb))
        all_goals go_wp2_with fail
        · refine bodyPost_ret (v := .tuple #[.agg #[.slice a2 0 cap2], .slice (some ⟨w2.heap.size, 0, none⟩) 1 1, .bool true]) (by simp [results, Try.results25, go_sem, aR2]) rfl ⟨a2, cap2, some ⟨w2.heap.size, 0, none⟩, 1, rfl, ?_, ?_, ne_lt (own_hi HD.out) (by intro g hg; simp [Value.ownBlock] at hg; omega), (TB.out.alloc TB.out.size _).setCell (by simp) _⟩
          · exact own_base (ownsRow_setCell_below (own_below HD.out (below_alloc _ _)) (by show _ + 1 < _; omega) _) (by omega)
          · exact own_base (ownsRow_setCell_below (ow_one w2 x w2.heap.size _ rfl (Nat.le_refl _)) (by show _ + 1 < _; omega) _) (by omega)
        · have e9 : ∀ u o, ((w2.setCell ⟨w.heap.size + 1, 0, none⟩ u).alloc o).cell? ⟨w.heap.size + 1, 0, none⟩ = some u := fun u o => cell_b (w := w2.setCell ⟨w.heap.size + 1, 0, none⟩ u) (p := ⟨w.heap.size + 1, 0, none⟩) (v := u) (World.cell?_setCell_same w2 ⟨w.heap.size + 1, 0, none⟩ u cR2) (below_alloc _ o)
          refine bodyPost_ret (v := .tuple #[.agg #[.slice a2 0 cap2], .slice (some ⟨w2.heap.size, 0, none⟩) 1 1, .bool true]) (by simp [results, Try.results25, go_sem, e9]) rfl ⟨a2, cap2, some ⟨w2.heap.size, 0, none⟩, 1, rfl, ?_, ?_, ne_lt (own_hi HD.out) (by intro g hg; simp [Value.ownBlock] at hg; omega), (TB.out.setCell (by simp) _).alloc (by simpa using TB.out.size) _⟩
          · exact own_base (own_below (ownsRow_setCell_below HD.out (by show _ + 1 < _; omega) _) (below_alloc _ _)) (by omega)
          · exact own_base (ow_one _ x w2.heap.size _ (by simp) (Nat.le_refl _)) (by omega)
        · refine bodyPost_ret (v := .tuple #[.agg #[.slice a2 0 cap2], .slice (some ⟨w1.heap.size, 0, none⟩) 1 1, .bool true]) (by simp [results, Try.results25, go_sem, cR2]) rfl ⟨a2, cap2, some ⟨w1.heap.size, 0, none⟩, 1, rfl, ?_, ?_, ?_, TB.out.setCell (by simp) _⟩
          · exact own_base (ownsRow_setCell_below HD.out (by show _ + 1 < _; omega) _) (by omega)
          · exact own_base (ownsRow_setCell_below (own_below (ow_one w1.drew x w1.heap.size _ rfl (Nat.le_refl _)) HB.out) (by show _ + 1 < _; omega) _) (by omega)
          · exact fun g g' h h' => by have h1 := HL.out g h; have e : (w1.alloc (Obj.cells #[Value.int IntKind.i64 x] 3)).drew.heap.size = w1.heap.size + 1 := World.size_alloc w1 _; simp [Value.ownBlock] at h'; omega

      · go_enter Try.func25, Try.ntmps25
        have T0 := Lib.hid (Below.refl w.heap.size w)
        go_wp2_with fail
        refine (I_CondValid _ _ (x :: ys) (rd_alloc (rd_alloc (rd_below HR.out T0.out) _) _) (by omega)).mono ?_
        rintro e w1 ⟨rfl, hb⟩
        have D1 : Below w.heap.size w w1 := below_trans (below_alloc _ _) (below_trans (below_alloc _ _) (hb))
        have T1 := Lib.hid (below_trans T0.out D1)
        have z1 : w.heap.size + 2 ≤ w1.heap.size := (by have := hb.size; (try simp at this); omega)
        have cA := cell_b (p := ⟨w.heap.size, 0, none⟩) (v := .slice (some ⟨g, off, none⟩) (ys.length + 1) cap) (by simp) hb
        have cR := cell_b (p := ⟨w.heap.size + 1, 0, none⟩) (v := .slice none 0 0) (by simp) hb
        have fR : w1.frozen? ⟨w.heap.size + 1, 0, none⟩ = false := (hb.frozen (p := ⟨w.heap.size + 1, 0, none⟩) (by simp; try omega)).trans (by simp)
        have cE := cell_b c0 D1
        have HT := Lib.hid (rd_tail (w := w1) (off := off) (cap := cap) (x := x) (ys := ys) (Nat.lt_of_lt_of_le hg D1.size) hcap (fun j hj => cell_b (HC.out j hj) D1) (off + 1) (.inl rfl))
        have aA := fun o => cell_b cA (below_alloc _ o)
        have aE := fun o => cell_b cE (below_alloc _ o)
        have aR := fun o => cell_b cR (below_alloc _ o)
        have gR := fun o => frz_b (cell_lt cR) fR (below_alloc _ o)
        have bR := fun o o1 => cell_b (aR o) (below_alloc _ o1)
        have hR := fun o o1 => frz_b (cell_lt (aR o)) (gR o) (below_alloc _ o1)
        have bA := fun o o1 => cell_b (aA o) (below_alloc _ o1)
        have bE := fun o o1 => cell_b (aE o) (below_alloc _ o1)
        have i1 : (0 : Int) ≤ (ys.length : Int) := by omega
        have i2 : (ys.length : Int) + 1 ≤ (cap : Int) := by simp at hcap; omega
        have i3 : ys.length + 1 ≤ cap := by simp at hcap; omega
        have i4 : (1 : Int) ≤ (ys.length : Int) + 1 := by omega
        have i5 : ¬ g = w.heap.size + 1 := by omega
        have i6 : ¬ w.heap.size + 1 = g := by omega
        clear hb D1 T0 c0
        go_wp2_with fail
        go_region_held3 (fun w' => w'.cell? ⟨w.heap.size, 0, none⟩ = some (.slice (some ⟨g, off, none⟩) (ys.length + 1) cap) ∧ w'.cell? ⟨g, off, none⟩ = some (.int .i64 x)) (first | exact ⟨cA, cE⟩ | exact ⟨aA _, aE _⟩ | exact ⟨cA2, cE2⟩ | exact ⟨aA2 _, aE2 _⟩ | go_keep)
          (first | (go_at_call 38; refine (I_cloneInts _ _ ys (by first | exact rd_drew HT.out | exact rd_alloc (rd_drew HT.out) _) (by first | omega | (simp at hl6; omega) | simp)).mono ?_; rintro e w2 ⟨a2, cap2, rfl, hd, hb⟩; have cA2 := cell_b (p := ⟨w.heap.size, 0, none⟩) (v := .slice (some ⟨g, off, none⟩) (ys.length + 1) cap) (by first | exact cA | exact aA _) hb; have cE2 := cell_b (p := ⟨g, off, none⟩) (v := .int .i64 x) (by first | exact cE | exact aE _) hb; have cR2 := cell_b (p := ⟨w.heap.size + 1, 0, none⟩) (v := .slice none 0 0) (by first | exact cR | exact aR _) hb; have fR2 := frz_b (p := ⟨w.heap.size + 1, 0, none⟩) (cell_lt (v := .slice none 0 0) (by first | exact cR | exact aR _)) (by first | exact fR | exact gR _) hb; have aA2 := fun o => cell_b cA2 (below_alloc _ o); have aE2 := fun o => cell_b cE2 (below_alloc _ o); have aR2 := fun o => cell_b cR2 (below_alloc _ o); have gR2 := fun o => frz_b (cell_lt cR2) fR2 (below_alloc _ o); have HD := Lib.hid (own_base hd (show w1.heap.size ≤ _ by first | exact Nat.le_refl _ | (simp; done) | exact Nat.le_succ _)); have TB := Lib.hid (below_trans T1.out (by first | exact below_trans (drew_below _) hb | exact below_trans (below_alloc _ _) (below_trans (drew_below _) hb) | exact below_trans (drew_below _) (below_trans (below_alloc _ _) hb))); have z2 : w1.heap.size ≤ w2.heap.size := (by have := hb.size; (try simp at this); first | exact this | omega | exact Nat.le_trans (Nat.le_succ _) this); have HB := Lib.hid hb; have HL := Lib.hid (own_lo hd); clear hd hb))
        all_goals go_wp2_with fail
        · refine bodyPost_ret (v := .tuple #[.agg #[.slice a2 ys.length cap2], .slice (some ⟨w2.heap.size, 0, none⟩) 1 1, .bool true]) (by simp [results, Try.results25, go_sem, aR2]) rfl ⟨a2, cap2, some ⟨w2.heap.size, 0, none⟩, 1, rfl, ?_, ?_, ne_lt (own_hi HD.out) (by intro g hg; simp [Value.ownBlock] at hg; omega), (TB.out.alloc TB.out.size _).setCell (by simp) _⟩
          · exact own_base (ownsRow_setCell_below (own_below HD.out (below_alloc _ _)) (by show _ + 1 < _; omega) _) (by omega)
          · exact own_base (ownsRow_setCell_below (ow_one w2 x w2.heap.size _ rfl (Nat.le_refl _)) (by show _ + 1 < _; omega) _) (by omega)
        · have e9 : ∀ u o, ((w2.setCell ⟨w.heap.size + 1, 0, none⟩ u).alloc o).cell? ⟨w.heap.size + 1, 0, none⟩ = some u := fun u o => cell_b (w := w2.setCell ⟨w.heap.size + 1, 0, none⟩ u) (p := ⟨w.heap.size + 1, 0, none⟩) (v := u) (World.cell?_setCell_same w2 ⟨w.heap.size + 1, 0, none⟩ u cR2) (below_alloc _ o)
          refine bodyPost_ret (v := .tuple #[.agg #[.slice a2 ys.length cap2], .slice (some ⟨w2.heap.size, 0, none⟩) 1 1, .bool true]) (by simp [results, Try.results25, go_sem, e9]) rfl ⟨a2, cap2, some ⟨w2.heap.size, 0, none⟩, 1, rfl, ?_, ?_, ne_lt (own_hi HD.out) (by intro g hg; simp [Value.ownBlock] at hg; omega), (TB.out.setCell (by simp) _).alloc (by simpa using TB.out.size) _⟩
          · exact own_base (own_below (ownsRow_setCell_below HD.out (by show _ + 1 < _; omega) _) (below_alloc _ _)) (by omega)
          · exact own_base (ow_one _ x w2.heap.size _ (by simp) (Nat.le_refl _)) (by omega)
        · refine bodyPost_ret (v := .tuple #[.agg #[.slice a2 ys.length cap2], .slice (some ⟨w1.heap.size, 0, none⟩) 1 1, .bool true]) (by simp [results, Try.results25, go_sem, cR2]) rfl ⟨a2, cap2, some ⟨w1.heap.size, 0, none⟩, 1, rfl, ?_, ?_, ?_, TB.out.setCell (by simp) _⟩
          · exact own_base (ownsRow_setCell_below HD.out (by show _ + 1 < _; omega) _) (by omega)
          · exact own_base (ownsRow_setCell_below (own_below (ow_one w1.drew x w1.heap.size _ rfl (Nat.le_refl _)) HB.out) (by show _ + 1 < _; omega) _) (by omega)
          · exact fun g g' h h' => by have h1 := HL.out g h; have e : (w1.alloc (Obj.cells #[Value.int IntKind.i64 x] 3)).drew.heap.size = w1.heap.size + 1 := World.size_alloc w1 _; simp [Value.ownBlock] at h'; omega

  · have hv' : vt xs = false := by simpa using hv
    rw [hv']
    clear hv hnc hr
    go_enter Try.func25, Try.ntmps25
    go_wp2_with fail
    refine (I_CondValid _ _ xs (rd_alloc (rd_alloc HR.out _) _) (by omega)).mono ?_
    rintro e w1 ⟨rfl, hb⟩
    have T1 := Lib.hid (below_trans (below_alloc _ _) (below_trans (below_alloc _ _) hb))
    have cA := cell_b (p := ⟨w.heap.size, 0, none⟩) (v := .slice a xs.length cap) (by simp) hb
    have cR := cell_b (p := ⟨w.heap.size + 1, 0, none⟩) (v := .slice none 0 0) (by simp) hb
    have fR : w1.frozen? ⟨w.heap.size + 1, 0, none⟩ = false := (hb.frozen (p := ⟨w.heap.size + 1, 0, none⟩) (by simp; try omega)).trans (by simp)
    clear hb
    go_wp2_with fail
    exact bodyPost_ret (v := .tuple #[.agg #[.slice none 0 0], .slice none 0 0, .bool false]) (by simp [results, Try.results25, go_sem, cR]) rfl ⟨_, _, _, _, rfl, ow_nil _ _, ow_nil _ _, ne_nil _ _ _, T1.out.setCell (by simp) _⟩
set_option maxHeartbeats 4000000 in
theorem S_TellOne (w : World) (v : Value) (xs : List Int) (hr : Rd w v xs) (hl : xs.length ≤ 4294967296) :
    Calls Try.prog 27 #[.agg #[v]] w fun e w' => ∃ a cap b cap', e = .returned (.tuple #[.agg #[.slice a (okL (vt xs) xs.tail).length cap], .slice b (okL (vt xs) (xs.take 1)).length cap', .bool (vt xs)]) ∧
      Ow w' w.heap.size (.slice a (okL (vt xs) xs.tail).length cap) (okL (vt xs) xs.tail) ∧ Ow w' w.heap.size (.slice b (okL (vt xs) (xs.take 1)).length cap') (okL (vt xs) (xs.take 1)) ∧ NE (.slice a (okL (vt xs) xs.tail).length cap) (.slice b (okL (vt xs) (xs.take 1)).length cap') ∧ Below w.heap.size w w' := by
  have HR := Lib.hid hr
  obtain ⟨i0, hi, hz0, hz1, hz2⟩ := info_parts info3
  obtain ⟨a, cap, rfl, hcap, hnc, hr⟩ := hr
  by_cases hv : vt xs = true
  · have hl6 := vt_len hv
    rcases xs with _ | ⟨x, ys⟩
    · rw [hv]
      clear hnc hr
      go_enter Try.func27, Try.ntmps27
      go_wp2_with fail
      refine (S_CondValid _ _ [] (rd_alloc (rd_alloc HR.out _) _) (by omega)).mono ?_
      rintro e w1 ⟨rfl, hb⟩
      have T1 := Lib.hid (below_trans (below_alloc _ _) (below_trans (below_alloc _ _) hb))
      have cA := cell_b (p := ⟨w.heap.size, 0, none⟩) (v := .slice a 0 cap) (by simp) hb
      have cR := cell_b (p := ⟨w.heap.size + 1, 0, none⟩) (v := .slice none 0 0) (by simp) hb
      have fR : w1.frozen? ⟨w.heap.size + 1, 0, none⟩ = false := (hb.frozen (p := ⟨w.heap.size + 1, 0, none⟩) (by simp; try omega)).trans (by simp)
      have aA := fun o => cell_b cA (below_alloc _ o)
      have aR := fun o => cell_b cR (below_alloc _ o)
      have gR := fun o => frz_b (cell_lt cR) fR (below_alloc _ o)
      have z1 : w.heap.size + 2 ≤ w1.heap.size := (by have := hb.size; (try simp at this); omega)
      clear hb
      go_wp2_with fail
      exact bodyPost_ret (v := .tuple #[.agg #[.slice none 0 0], .slice (some ⟨w1.heap.size, 0, none⟩) 0 0, .bool true]) (by simp [results, Try.results27, go_sem, aR]) rfl ⟨_, _, _, _, rfl, ow_nil _ _, own_base (ownsRow_setCell_below (ow_made w1 _ (Nat.le_refl _)) (by show _ + 1 < _; omega) _) (by omega), ne_nil _ _ _, (T1.out.alloc T1.out.size _).setCell (by simp) _⟩
    · rcases hr with hr | ⟨g, off, rfl, hg, hc⟩
      · simp at hr
      rw [hv, okL_true, okL_true]
      have c0 := hc 0 (by simp)
      simp only [Nat.add_zero, List.getD_cons_zero] at c0
      have HC := Lib.hid hc
      clear hc hnc
      by_cases hc1 : cap = 1
      · subst hc1
        obtain rfl : ys = [] := by simp at hcap; exact hcap
        go_enter Try.func27, Try.ntmps27
        have T0 := Lib.hid (Below.refl w.heap.size w)
        go_wp2_with fail
        refine (S_CondValid _ _ [x] (rd_alloc (rd_alloc (rd_below HR.out T0.out) _) _) (by omega)).mono ?_
        rintro e w1 ⟨rfl, hb⟩
        have D1 : Below w.heap.size w w1 := below_trans (below_alloc _ _) (below_trans (below_alloc _ _) (hb))
        have T1 := Lib.hid (below_trans T0.out D1)
        have z1 : w.heap.size + 2 ≤ w1.heap.size := (by have := hb.size; (try simp at this); omega)
        have cA := cell_b (p := ⟨w.heap.size, 0, none⟩) (v := .slice (some ⟨g, off, none⟩) 1 1) (by simp) hb
        have cR := cell_b (p := ⟨w.heap.size + 1, 0, none⟩) (v := .slice none 0 0) (by simp) hb
        have fR : w1.frozen? ⟨w.heap.size + 1, 0, none⟩ = false := (hb.frozen (p := ⟨w.heap.size + 1, 0, none⟩) (by simp; try omega)).trans (by simp)
        have cE := cell_b c0 D1
        have HT := Lib.hid (rd_tail (w := w1) (off := off) (cap := 1) (x := x) (ys := []) (Nat.lt_of_lt_of_le hg D1.size) hcap (fun j hj => cell_b (HC.out j hj) D1) off (.inr rfl))
        have aA := fun o => cell_b cA (below_alloc _ o)
        have aE := fun o => cell_b cE (below_alloc _ o)
        have aR := fun o => cell_b cR (below_alloc _ o)
        have gR := fun o => frz_b (cell_lt cR) fR (below_alloc _ o)
        have bR := fun o o1 => cell_b (aR o) (below_alloc _ o1)
        have hR := fun o o1 => frz_b (cell_lt (aR o)) (gR o) (below_alloc _ o1)
        have bA := fun o o1 => cell_b (aA o) (below_alloc _ o1)
        have bE := fun o o1 => cell_b (aE o) (below_alloc _ o1)
        have i5 : ¬ g = w.heap.size + 1 := by omega
        have i6 : ¬ w.heap.size + 1 = g := by omega
        clear hb D1 T0 c0
        go_wp2_with fail
        go_region_held3 (fun w' => w'.cell? ⟨w.heap.size, 0, none⟩ = some (.slice (some ⟨g, off, none⟩) 1 1) ∧ w'.cell? ⟨g, off, none⟩ = some (.int .i64 x)) (first | exact ⟨cA, cE⟩ | exact ⟨aA _, aE _⟩ | exact ⟨cA2, cE2⟩ | exact ⟨aA2 _, aE2 _⟩ | go_keep)
          (first | (refine step_append_rd (w := (w1.alloc (.cells #[] 3)).drew) rfl _ _ 24 rfl (w1.heap.size) i0 Try.underlying24 hi hz0 hz1 hz2 (.slice (some ⟨w1.heap.size, 0, none⟩) 0 0) 0 [] rfl (own_below (World.ownsRow_made (base := w1.heap.size) (e := 3) (size := 1) w1 #[] 0 (Nat.le_refl _) (by unfold maxLen; omega) rfl) (drew_below _)) _ _ _ [] rfl (rd_below HT.out (below_trans (below_alloc _ _) (drew_below _))) rfl (by unfold maxLen; simp) (by simp) (show w1.heap.size ≤ _ from (below_trans (below_alloc _ _) (drew_below _) : Below w1.heap.size w1 _).size) ?_; intro v2 w2 hown hgrow hloc; have hd : w2.ownsRow w1.heap.size 3 1 v2 ([] : List Int).length (ints []) := (by rw [Nat.zero_add, List.nil_append] at hown; exact hown); obtain ⟨a2, cap2, hv2⟩ := own_shape hd; subst hv2; have cA2 := cell_gr (cell_b cA (below_trans (below_alloc _ _) (drew_below _))) hgrow (fun g1 h1 => by simp only [Value.ownBlock, Option.some.injEq] at h1; show w.heap.size ≠ _; omega); have cE2 := cell_gr (cell_b cE (below_trans (below_alloc _ _) (drew_below _))) hgrow (fun g1 h1 => by simp only [Value.ownBlock, Option.some.injEq] at h1; show g ≠ _; omega); have cR2 := cell_gr (cell_b cR (below_trans (below_alloc _ _) (drew_below _))) hgrow (fun g1 h1 => by simp only [Value.ownBlock, Option.some.injEq] at h1; show w.heap.size + 1 ≠ _; omega); have fR2 := (frz_gr (p := ⟨w.heap.size + 1, 0, none⟩) (cell_lt (cell_b cR (below_trans (below_alloc _ _) (drew_below _)))) hgrow (fun g1 h1 => by simp only [Value.ownBlock, Option.some.injEq] at h1; show w.heap.size + 1 ≠ _; omega)).trans (frz_b (cell_lt cR) fR (below_trans (below_alloc _ _) (drew_below _))); have aA2 := fun o => cell_b cA2 (below_alloc _ o); have aE2 := fun o => cell_b cE2 (below_alloc _ o); have aR2 := fun o => cell_b cR2 (below_alloc _ o); have gR2 := fun o => frz_b (cell_lt cR2) fR2 (below_alloc _ o); have HD := Lib.hid hd; have TB := Lib.hid (below_gr (T1.out.trans ((below_trans (below_alloc _ _) (drew_below _) : Below w1.heap.size w1 _).mono T1.out.size)) (by have h9 := T1.out.size; have h8 := (below_trans (below_alloc _ _) (drew_below _) : Below w1.heap.size w1 ((w1.alloc (.cells #[] 3)).drew)).size; omega) hgrow (fun g1 h1 => by have h9 := T1.out.size; simp only [Value.ownBlock, Option.some.injEq] at h1; omega)); have z2 : w1.heap.size + 1 ≤ w2.heap.size := Nat.le_trans (show w1.heap.size + 1 ≤ ((w1.alloc (.cells #[] 3)).drew).heap.size from Nat.le_of_eq (World.size_alloc w1 _).symm) hgrow.size; clear hown hgrow hloc hd) | (refine step_append_rd (w := ((w1.alloc (.cells #[] 3)).alloc (.cells #[.int .i64 x] 3)).drew) rfl _ _ 24 rfl (w1.heap.size) i0 Try.underlying24 hi hz0 hz1 hz2 (.slice (some ⟨w1.heap.size, 0, none⟩) 0 0) 0 [] rfl (own_below (World.ownsRow_made (base := w1.heap.size) (e := 3) (size := 1) w1 #[] 0 (Nat.le_refl _) (by unfold maxLen; omega) rfl) (below_trans (below_alloc _ _) (drew_below _))) _ _ _ [] rfl (rd_below HT.out (below_trans (below_alloc _ _) (below_trans (below_alloc _ _) (drew_below _)))) rfl (by unfold maxLen; simp) (by simp) (show w1.heap.size ≤ _ from (below_trans (below_alloc _ _) (below_trans (below_alloc _ _) (drew_below _)) : Below w1.heap.size w1 _).size) ?_; intro v2 w2 hown hgrow hloc; have hd : w2.ownsRow w1.heap.size 3 1 v2 ([] : List Int).length (ints []) := (by rw [Nat.zero_add, List.nil_append] at hown; exact hown); obtain ⟨a2, cap2, hv2⟩ := own_shape hd; subst hv2; have cA2 := cell_gr (cell_b cA (below_trans (below_alloc _ _) (below_trans (below_alloc _ _) (drew_below _)))) hgrow (fun g1 h1 => by simp only [Value.ownBlock, Option.some.injEq] at h1; show w.heap.size ≠ _; omega); have cE2 := cell_gr (cell_b cE (below_trans (below_alloc _ _) (below_trans (below_alloc _ _) (drew_below _)))) hgrow (fun g1 h1 => by simp only [Value.ownBlock, Option.some.injEq] at h1; show g ≠ _; omega); have cR2 := cell_gr (cell_b cR (below_trans (below_alloc _ _) (below_trans (below_alloc _ _) (drew_below _)))) hgrow (fun g1 h1 => by simp only [Value.ownBlock, Option.some.injEq] at h1; show w.heap.size + 1 ≠ _; omega); have fR2 := (frz_gr (p := ⟨w.heap.size + 1, 0, none⟩) (cell_lt (cell_b cR (below_trans (below_alloc _ _) (below_trans (below_alloc _ _) (drew_below _))))) hgrow (fun g1 h1 => by simp only [Value.ownBlock, Option.some.injEq] at h1; show w.heap.size + 1 ≠ _; omega)).trans (frz_b (cell_lt cR) fR (below_trans (below_alloc _ _) (below_trans (below_alloc _ _) (drew_below _)))); have aA2 := fun o => cell_b cA2 (below_alloc _ o); have aE2 := fun o => cell_b cE2 (below_alloc _ o); have aR2 := fun o => cell_b cR2 (below_alloc _ o); have gR2 := fun o => frz_b (cell_lt cR2) fR2 (below_alloc _ o); have HD := Lib.hid hd; have TB := Lib.hid (below_gr (T1.out.trans ((below_trans (below_alloc _ _) (below_trans (below_alloc _ _) (drew_below _)) : Below w1.heap.size w1 _).mono T1.out.size)) (by have h9 := T1.out.size; have h8 := (below_trans (below_alloc _ _) (below_trans (below_alloc _ _) (drew_below _)) : Below w1.heap.size w1 (((w1.alloc (.cells #[] 3)).alloc (.cells #[.int .i64 x] 3)).drew)).size; omega) hgrow (fun g1 h1 => by have h9 := T1.out.size; simp only [Value.ownBlock, Option.some.injEq] at h1; omega)); have z2 : w1.heap.size + 1 ≤ w2.heap.size := Nat.le_trans (show w1.heap.size + 1 ≤ (((w1.alloc (.cells #[] 3)).alloc (.cells #[.int .i64 x] 3)).drew).heap.size from Nat.le_trans (Nat.le_of_eq (World.size_alloc w1 _).symm) (below_alloc _ _).size) hgrow.size; have HX : Hid (Ow w2 (w1.heap.size + 1) (.slice (some ⟨w1.heap.size + 1, 0, none⟩) 1 1) [x]) := Lib.hid (own_gr (own_below (ow_one (w1.alloc (.cells #[] 3)) x (w1.heap.size + 1) (w1.heap.size + 1) (World.size_alloc w1 _).symm (Nat.le_refl _)) (drew_below _)) hgrow (fun g1 g2 h1 h2 => by simp only [Value.ownBlock, Option.some.injEq] at h1 h2; omega)); have HL : Hid (∀ g1, (Value.slice a2 ([] : List Int).length cap2).ownBlock = some g1 → g1 = w1.heap.size ∨ w1.heap.size + 2 ≤ g1) := Lib.hid (fun g1 h1 => by rcases hloc with hloc | hloc <;> rw [hloc] at h1 <;> simp only [Value.ownBlock, Option.some.injEq] at h1 <;> first | (left; exact h1.symm) | (right; subst h1; exact Nat.le_of_eq (by show _ = ((w1.alloc _).alloc _).heap.size; rw [World.size_alloc, World.size_alloc]))); clear hown hgrow hloc hd) | (refine step_append_rd (w := ((w1.alloc (.cells #[.int .i64 x] 3)).alloc (.cells #[] 3)).drew) rfl _ _ 24 rfl (w1.heap.size) i0 Try.underlying24 hi hz0 hz1 hz2 (.slice (some ⟨w1.heap.size + 1, 0, none⟩) 0 0) 0 [] rfl (own_below (ow_made1 w1 _ w1.heap.size (Nat.le_refl _)) (drew_below _)) _ _ _ [] rfl (rd_below HT.out (below_trans (below_alloc _ _) (below_trans (below_alloc _ _) (drew_below _)))) rfl (by unfold maxLen; simp) (by simp) (show w1.heap.size ≤ _ from (below_trans (below_alloc _ _) (below_trans (below_alloc _ _) (drew_below _)) : Below w1.heap.size w1 _).size) ?_; intro v2 w2 hown hgrow hloc; have hd : w2.ownsRow w1.heap.size 3 1 v2 ([] : List Int).length (ints []) := (by rw [Nat.zero_add, List.nil_append] at hown; exact hown); obtain ⟨a2, cap2, hv2⟩ := own_shape hd; subst hv2; have cA2 := cell_gr (cell_b cA (below_trans (below_alloc _ _) (below_trans (below_alloc _ _) (drew_below _)))) hgrow (fun g1 h1 => by simp only [Value.ownBlock, Option.some.injEq] at h1; show w.heap.size ≠ _; omega); have cE2 := cell_gr (cell_b cE (below_trans (below_alloc _ _) (below_trans (below_alloc _ _) (drew_below _)))) hgrow (fun g1 h1 => by simp only [Value.ownBlock, Option.some.injEq] at h1; show g ≠ _; omega); have cR2 := cell_gr (cell_b cR (below_trans (below_alloc _ _) (below_trans (below_alloc _ _) (drew_below _)))) hgrow (fun g1 h1 => by simp only [Value.ownBlock, Option.some.injEq] at h1; show w.heap.size + 1 ≠ _; omega); have fR2 := (frz_gr (p := ⟨w.heap.size + 1, 0, none⟩) (cell_lt (cell_b cR (below_trans (below_alloc _ _) (below_trans (below_alloc _ _) (drew_below _))))) hgrow (fun g1 h1 => by simp only [Value.ownBlock, Option.some.injEq] at h1; show w.heap.size + 1 ≠ _; omega)).trans (frz_b (cell_lt cR) fR (below_trans (below_alloc _ _) (below_trans (below_alloc _ _) (drew_below _)))); have aA2 := fun o => cell_b cA2 (below_alloc _ o); have aE2 := fun o => cell_b cE2 (below_alloc _ o); have aR2 := fun o => cell_b cR2 (below_alloc _ o); have gR2 := fun o => frz_b (cell_lt cR2) fR2 (below_alloc _ o); have HD := Lib.hid hd; have TB := Lib.hid (below_gr (T1.out.trans ((below_trans (below_alloc _ _) (below_trans (below_alloc _ _) (drew_below _)) : Below w1.heap.size w1 _).mono T1.out.size)) (by have h9 := T1.out.size; have h8 := (below_trans (below_alloc _ _) (below_trans (below_alloc _ _) (drew_below _)) : Below w1.heap.size w1 (((w1.alloc (.cells #[.int .i64 x] 3)).alloc (.cells #[] 3)).drew)).size; omega) hgrow (fun g1 h1 => by have h9 := T1.out.size; simp only [Value.ownBlock, Option.some.injEq] at h1; omega)); have z2 : w1.heap.size + 1 ≤ w2.heap.size := Nat.le_trans (show w1.heap.size + 1 ≤ (((w1.alloc (.cells #[.int .i64 x] 3)).alloc (.cells #[] 3)).drew).heap.size from Nat.le_trans (Nat.le_of_eq (World.size_alloc w1 _).symm) (below_alloc _ _).size) hgrow.size; have HX : Hid (Ow w2 w1.heap.size (.slice (some ⟨w1.heap.size, 0, none⟩) 1 1) [x]) := Lib.hid (own_gr (own_below (ow_one w1 x w1.heap.size _ rfl (Nat.le_refl _)) (below_trans (below_alloc _ _) (drew_below _))) hgrow (fun g1 g2 h1 h2 => by simp only [Value.ownBlock, Option.some.injEq] at h1 h2; omega)); have HL : Hid (∀ g1, (Value.slice a2 ([] : List Int).length cap2).ownBlock = some g1 → g1 = w1.heap.size + 1 ∨ w1.heap.size + 2 ≤ g1) := Lib.hid (fun g1 h1 => by rcases hloc with hloc | hloc <;> rw [hloc] at h1 <;> simp only [Value.ownBlock, Option.some.injEq] at h1 <;> first | (left; exact h1.symm) | (right; subst h1; exact Nat.le_of_eq (by show _ = ((w1.alloc _).alloc _).heap.size; rw [World.size_alloc, World.size_alloc]))); clear hown hgrow hloc hd))
        all_goals go_wp2_with fail
        · refine bodyPost_ret (v := .tuple #[.agg #[.slice a2 0 cap2], .slice (some ⟨w2.heap.size, 0, none⟩) 1 1, .bool true]) (by simp [results, Try.results27, go_sem, aR2]) rfl ⟨a2, cap2, some ⟨w2.heap.size, 0, none⟩, 1, rfl, ?_, ?_, ne_lt (own_hi HD.out) (by intro g hg; simp [Value.ownBlock] at hg; omega), (TB.out.alloc TB.out.size _).setCell (by simp) _⟩
          · exact own_base (ownsRow_setCell_below (own_below HD.out (below_alloc _ _)) (by show _ + 1 < _; omega) _) (by omega)
          · exact own_base (ownsRow_setCell_below (ow_one w2 x w2.heap.size _ rfl (Nat.le_refl _)) (by show _ + 1 < _; omega) _) (by omega)
        · have e9 : ∀ u o, ((w2.setCell ⟨w.heap.size + 1, 0, none⟩ u).alloc o).cell? ⟨w.heap.size + 1, 0, none⟩ = some u := fun u o => cell_b (w := w2.setCell ⟨w.heap.size + 1, 0, none⟩ u) (p := ⟨w.heap.size + 1, 0, none⟩) (v := u) (World.cell?_setCell_same w2 ⟨w.heap.size + 1, 0, none⟩ u cR2) (below_alloc _ o)
          refine bodyPost_ret (v := .tuple #[.agg #[.slice a2 0 cap2], .slice (some ⟨w2.heap.size, 0, none⟩) 1 1, .bool true]) (by simp [results, Try.results27, go_sem, e9]) rfl ⟨a2, cap2, some ⟨w2.heap.size, 0, none⟩, 1, rfl, ?_, ?_, ne_lt (own_hi HD.out) (by intro g hg; simp [Value.ownBlock] at hg; omega), (TB.out.setCell (by simp) _).alloc (by simpa using TB.out.size) _⟩
          · exact own_base (own_below (ownsRow_setCell_below HD.out (by show _ + 1 < _; omega) _) (below_alloc _ _)) (by omega)
          · exact own_base (ow_one _ x w2.heap.size _ (by simp) (Nat.le_refl _)) (by omega)
        · refine bodyPost_ret (v := .tuple #[.agg #[.slice a2 0 cap2], .slice (some ⟨w1.heap.size + 1, 0, none⟩) 1 1, .bool true]) (by simp [results, Try.results27, go_sem, cR2]) rfl ⟨a2, cap2, some ⟨w1.heap.size + 1, 0, none⟩, 1, rfl, ?_, ?_, ?_, TB.out.setCell (by simp) _⟩
          · exact own_base (ownsRow_setCell_below HD.out (by show _ + 1 < _; omega) _) (by omega)
          · exact own_base (ownsRow_setCell_below HX.out (by show _ + 1 < _; omega) _) (by omega)
          · exact fun g1 g2 h1 h2 => by have h3 := HL.out g1 h1; simp only [Value.ownBlock, Option.some.injEq] at h2; omega
        · refine bodyPost_ret (v := .tuple #[.agg #[.slice a2 0 cap2], .slice (some ⟨w1.heap.size, 0, none⟩) 1 1, .bool true]) (by simp [results, Try.results27, go_sem, cR2]) rfl ⟨a2, cap2, some ⟨w1.heap.size, 0, none⟩, 1, rfl, ?_, ?_, ?_, TB.out.setCell (by simp) _⟩
          · exact own_base (ownsRow_setCell_below HD.out (by show _ + 1 < _; omega) _) (by omega)
          · exact own_base (ownsRow_setCell_below HX.out (by show _ + 1 < _; omega) _) (by omega)
          · exact fun g1 g2 h1 h2 => by have h3 := HL.out g1 h1; simp only [Value.ownBlock, Option.some.injEq] at h2; omega

      · go_enter Try.func27, Try.ntmps27
        have T0 := Lib.hid (Below.refl w.heap.size w)
        go_wp2_with fail
        refine (S_CondValid _ _ (x :: ys) (rd_alloc (rd_alloc (rd_below HR.out T0.out) _) _) (by omega)).mono ?_
        rintro e w1 ⟨rfl, hb⟩
        have D1 : Below w.heap.size w w1 := below_trans (below_alloc _ _) (below_trans (below_alloc _ _) (hb))
        have T1 := Lib.hid (below_trans T0.out D1)
        have z1 : w.heap.size + 2 ≤ w1.heap.size := (by have := hb.size; (try simp at this); omega)
        have cA := cell_b (p := ⟨w.heap.size, 0, none⟩) (v := .slice (some ⟨g, off, none⟩) (ys.length + 1) cap) (by simp) hb
        have cR := cell_b (p := ⟨w.heap.size + 1, 0, none⟩) (v := .slice none 0 0) (by simp) hb
        have fR : w1.frozen? ⟨w.heap.size + 1, 0, none⟩ = false := (hb.frozen (p := ⟨w.heap.size + 1, 0, none⟩) (by simp; try omega)).trans (by simp)
        have cE := cell_b c0 D1
        have HT := Lib.hid (rd_tail (w := w1) (off := off) (cap := cap) (x := x) (ys := ys) (Nat.lt_of_lt_of_le hg D1.size) hcap (fun j hj => cell_b (HC.out j hj) D1) (off + 1) (.inl rfl))
        have aA := fun o => cell_b cA (below_alloc _ o)
        have aE := fun o => cell_b cE (below_alloc _ o)
        have aR := fun o => cell_b cR (below_alloc _ o)
        have gR := fun o => frz_b (cell_lt cR) fR (below_alloc _ o)
        have bR := fun o o1 => cell_b (aR o) (below_alloc _ o1)
        have hR := fun o o1 => frz_b (cell_lt (aR o)) (gR o) (below_alloc _ o1)
        have bA := fun o o1 => cell_b (aA o) (below_alloc _ o1)
        have bE := fun o o1 => cell_b (aE o) (below_alloc _ o1)
        have i1 : (0 : Int) ≤ (ys.length : Int) := by omega
        have i2 : (ys.length : Int) + 1 ≤ (cap : Int) := by simp at hcap; omega
        have i3 : ys.length + 1 ≤ cap := by simp at hcap; omega
        have i4 : (1 : Int) ≤ (ys.length : Int) + 1 := by omega
        have i5 : ¬ g = w.heap.size + 1 := by omega
        have i6 : ¬ w.heap.size + 1 = g := by omega
        clear hb D1 T0 c0
        go_wp2_with fail
        go_region_held3 (fun w' => w'.cell? ⟨w.heap.size, 0, none⟩ = some (.slice (some ⟨g, off, none⟩) (ys.length + 1) cap) ∧ w'.cell? ⟨g, off, none⟩ = some (.int .i64 x)) (first | exact ⟨cA, cE⟩ | exact ⟨aA _, aE _⟩ | exact ⟨cA2, cE2⟩ | exact ⟨aA2 _, aE2 _⟩ | go_keep)
          (first | (refine step_append_rd (w := (w1.alloc (.cells #[] 3)).drew) rfl _ _ 24 rfl (w1.heap.size) i0 Try.underlying24 hi hz0 hz1 hz2 (.slice (some ⟨w1.heap.size, 0, none⟩) 0 0) 0 [] rfl (own_below (World.ownsRow_made (base := w1.heap.size) (e := 3) (size := 1) w1 #[] 0 (Nat.le_refl _) (by unfold maxLen; omega) rfl) (drew_below _)) _ _ _ (ys) rfl (rd_below HT.out (below_trans (below_alloc _ _) (drew_below _))) rfl (by unfold maxLen; simp at hl6 ⊢; try omega) (by simp at hl6 ⊢; try omega) (show w1.heap.size ≤ _ from (below_trans (below_alloc _ _) (drew_below _) : Below w1.heap.size w1 _).size) ?_; intro v2 w2 hown hgrow hloc; have hd : w2.ownsRow w1.heap.size 3 1 v2 (ys).length (ints (ys)) := (by rw [Nat.zero_add, List.nil_append] at hown; exact hown); obtain ⟨a2, cap2, hv2⟩ := own_shape hd; subst hv2; have cA2 := cell_gr (cell_b cA (below_trans (below_alloc _ _) (drew_below _))) hgrow (fun g1 h1 => by simp only [Value.ownBlock, Option.some.injEq] at h1; show w.heap.size ≠ _; omega); have cE2 := cell_gr (cell_b cE (below_trans (below_alloc _ _) (drew_below _))) hgrow (fun g1 h1 => by simp only [Value.ownBlock, Option.some.injEq] at h1; show g ≠ _; omega); have cR2 := cell_gr (cell_b cR (below_trans (below_alloc _ _) (drew_below _))) hgrow (fun g1 h1 => by simp only [Value.ownBlock, Option.some.injEq] at h1; show w.heap.size + 1 ≠ _; omega); have fR2 := (frz_gr (p := ⟨w.heap.size + 1, 0, none⟩) (cell_lt (cell_b cR (below_trans (below_alloc _ _) (drew_below _)))) hgrow (fun g1 h1 => by simp only [Value.ownBlock, Option.some.injEq] at h1; show w.heap.size + 1 ≠ _; omega)).trans (frz_b (cell_lt cR) fR (below_trans (below_alloc _ _) (drew_below _))); have aA2 := fun o => cell_b cA2 (below_alloc _ o); have aE2 := fun o => cell_b cE2 (below_alloc _ o); have aR2 := fun o => cell_b cR2 (below_alloc _ o); have gR2 := fun o => frz_b (cell_lt cR2) fR2 (below_alloc _ o); have HD := Lib.hid hd; have TB := Lib.hid (below_gr (T1.out.trans ((below_trans (below_alloc _ _) (drew_below _) : Below w1.heap.size w1 _).mono T1.out.size)) (by have h9 := T1.out.size; have h8 := (below_trans (below_alloc _ _) (drew_below _) : Below w1.heap.size w1 ((w1.alloc (.cells #[] 3)).drew)).size; omega) hgrow (fun g1 h1 => by have h9 := T1.out.size; simp only [Value.ownBlock, Option.some.injEq] at h1; omega)); have z2 : w1.heap.size + 1 ≤ w2.heap.size := Nat.le_trans (show w1.heap.size + 1 ≤ ((w1.alloc (.cells #[] 3)).drew).heap.size from Nat.le_of_eq (World.size_alloc w1 _).symm) hgrow.size; clear hown hgrow hloc hd) | (refine step_append_rd (w := ((w1.alloc (.cells #[] 3)).alloc (.cells #[.int .i64 x] 3)).drew) rfl _ _ 24 rfl (w1.heap.size) i0 Try.underlying24 hi hz0 hz1 hz2 (.slice (some ⟨w1.heap.size, 0, none⟩) 0 0) 0 [] rfl (own_below (World.ownsRow_made (base := w1.heap.size) (e := 3) (size := 1) w1 #[] 0 (Nat.le_refl _) (by unfold maxLen; omega) rfl) (below_trans (below_alloc _ _) (drew_below _))) _ _ _ (ys) rfl (rd_below HT.out (below_trans (below_alloc _ _) (below_trans (below_alloc _ _) (drew_below _)))) rfl (by unfold maxLen; simp at hl6 ⊢; try omega) (by simp at hl6 ⊢; try omega) (show w1.heap.size ≤ _ from (below_trans (below_alloc _ _) (below_trans (below_alloc _ _) (drew_below _)) : Below w1.heap.size w1 _).size) ?_; intro v2 w2 hown hgrow hloc; have hd : w2.ownsRow w1.heap.size 3 1 v2 (ys).length (ints (ys)) := (by rw [Nat.zero_add, List.nil_append] at hown; exact hown); obtain ⟨a2, cap2, hv2⟩ := own_shape hd; subst hv2; have cA2 := cell_gr (cell_b cA (below_trans (below_alloc _ _) (below_trans (below_alloc _ _) (drew_below _)))) hgrow (fun g1 h1 => by simp only [Value.ownBlock, Option.some.injEq] at h1; show w.heap.size ≠ _; omega); have cE2 := cell_gr (cell_b cE (below_trans (below_alloc _ _) (below_trans (below_alloc _ _) (drew_below _)))) hgrow (fun g1 h1 => by simp only [Value.ownBlock, Option.some.injEq] at h1; show g ≠ _; omega); have cR2 := cell_gr (cell_b cR (below_trans (below_alloc _ _) (below_trans (below_alloc _ _) (drew_below _)))) hgrow (fun g1 h1 => by simp only [Value.ownBlock, Option.some.injEq] at h1; show w.heap.size + 1 ≠ _; omega); have fR2 := (frz_gr (p := ⟨w.heap.size + 1, 0, none⟩) (cell_lt (cell_b cR (below_trans (below_alloc _ _) (below_trans (below_alloc _ _) (drew_below _))))) hgrow (fun g1 h1 => by simp only [Value.ownBlock, Option.some.injEq] at h1; show w.heap.size + 1 ≠ _; omega)).trans (frz_b (cell_lt cR) fR (below_trans (below_alloc _ _) (below_trans (below_alloc _ _) (drew_below _)))); have aA2 := fun o => cell_b cA2 (below_alloc _ o); have aE2 := fun o => cell_b cE2 (below_alloc _ o); have aR2 := fun o => cell_b cR2 (below_alloc _ o); have gR2 := fun o => frz_b (cell_lt cR2) fR2 (below_alloc _ o); have HD := Lib.hid hd; have TB := Lib.hid (below_gr (T1.out.trans ((below_trans (below_alloc _ _) (below_trans (below_alloc _ _) (drew_below _)) : Below w1.heap.size w1 _).mono T1.out.size)) (by have h9 := T1.out.size; have h8 := (below_trans (below_alloc _ _) (below_trans (below_alloc _ _) (drew_below _)) : Below w1.heap.size w1 (((w1.alloc (.cells #[] 3)).alloc (.cells #[.int .i64 x] 3)).drew)).size; omega) hgrow (fun g1 h1 => by have h9 := T1.out.size; simp only [Value.ownBlock, Option.some.injEq] at h1; omega)); have z2 : w1.heap.size + 1 ≤ w2.heap.size := Nat.le_trans (show w1.heap.size + 1 ≤ (((w1.alloc (.cells #[] 3)).alloc (.cells #[.int .i64 x] 3)).drew).heap.size from Nat.le_trans (Nat.le_of_eq (World.size_alloc w1 _).symm) (below_alloc _ _).size) hgrow.size; have HX : Hid (Ow w2 (w1.heap.size + 1) (.slice (some ⟨w1.heap.size + 1, 0, none⟩) 1 1) [x]) := Lib.hid (own_gr (own_below (ow_one (w1.alloc (.cells #[] 3)) x (w1.heap.size + 1) (w1.heap.size + 1) (World.size_alloc w1 _).symm (Nat.le_refl _)) (drew_below _)) hgrow (fun g1 g2 h1 h2 => by simp only [Value.ownBlock, Option.some.injEq] at h1 h2; omega)); have HL : Hid (∀ g1, (Value.slice a2 (ys).length cap2).ownBlock = some g1 → g1 = w1.heap.size ∨ w1.heap.size + 2 ≤ g1) := Lib.hid (fun g1 h1 => by rcases hloc with hloc | hloc <;> rw [hloc] at h1 <;> simp only [Value.ownBlock, Option.some.injEq] at h1 <;> first | (left; exact h1.symm) | (right; subst h1; exact Nat.le_of_eq (by show _ = ((w1.alloc _).alloc _).heap.size; rw [World.size_alloc, World.size_alloc]))); clear hown hgrow hloc hd) | (refine step_append_rd (w := ((w1.alloc (.cells #[.int .i64 x] 3)).alloc (.cells #[] 3)).drew) rfl _ _ 24 rfl (w1.heap.size) i0 Try.underlying24 hi hz0 hz1 hz2 (.slice (some ⟨w1.heap.size + 1, 0, none⟩) 0 0) 0 [] rfl (own_below (ow_made1 w1 _ w1.heap.size (Nat.le_refl _)) (drew_below _)) _ _ _ (ys) rfl (rd_below HT.out (below_trans (below_alloc _ _) (below_trans (below_alloc _ _) (drew_below _)))) rfl (by unfold maxLen; simp at hl6 ⊢; try omega) (by simp at hl6 ⊢; try omega) (show w1.heap.size ≤ _ from (below_trans (below_alloc _ _) (below_trans (below_alloc _ _) (drew_below _)) : Below w1.heap.size w1 _).size) ?_; intro v2 w2 hown hgrow hloc; have hd : w2.ownsRow w1.heap.size 3 1 v2 (ys).length (ints (ys)) := (by rw [Nat.zero_add, List.nil_append] at hown; exact hown); obtain ⟨a2, cap2, hv2⟩ := own_shape hd; subst hv2; have cA2 := cell_gr (cell_b cA (below_trans (below_alloc _ _) (below_trans (below_alloc _ _) (drew_below _)))) hgrow (fun g1 h1 => by simp only [Value.ownBlock, Option.some.injEq] at h1; show w.heap.size ≠ _; omega); have cE2 := cell_gr (cell_b cE (below_trans (below_alloc _ _) (below_trans (below_alloc _ _) (drew_below _)))) hgrow (fun g1 h1 => by simp only [Value.ownBlock, Option.some.injEq] at h1; show g ≠ _; omega); have cR2 := cell_gr (cell_b cR (below_trans (below_alloc _ _) (below_trans (below_alloc _ _) (drew_below _)))) hgrow (fun g1 h1 => by simp only [Value.ownBlock, Option.some.injEq] at h1; show w.heap.size + 1 ≠ _; omega); have fR2 := (frz_gr (p := ⟨w.heap.size + 1, 0, none⟩) (cell_lt (cell_b cR (below_trans (below_alloc _ _) (below_trans (below_alloc _ _) (drew_below _))))) hgrow (fun g1 h1 => by simp only [Value.ownBlock, Option.some.injEq] at h1; show w.heap.size + 1 ≠ _; omega)).trans (frz_b (cell_lt cR) fR (below_trans (below_alloc _ _) (below_trans (below_alloc _ _) (drew_below _)))); have aA2 := fun o => cell_b cA2 (below_alloc _ o); have aE2 := fun o => cell_b cE2 (below_alloc _ o); have aR2 := fun o => cell_b cR2 (below_alloc _ o); have gR2 := fun o => frz_b (cell_lt cR2) fR2 (below_alloc _ o); have HD := Lib.hid hd; have TB := Lib.hid (below_gr (T1.out.trans ((below_trans (below_alloc _ _) (below_trans (below_alloc _ _) (drew_below _)) : Below w1.heap.size w1 _).mono T1.out.size)) (by have h9 := T1.out.size; have h8 := (below_trans (below_alloc _ _) (below_trans (below_alloc _ _) (drew_below _)) : Below w1.heap.size w1 (((w1.alloc (.cells #[.int .i64 x] 3)).alloc (.cells #[] 3)).drew)).size; omega) hgrow (fun g1 h1 => by have h9 := T1.out.size; simp only [Value.ownBlock, Option.some.injEq] at h1; omega)); have z2 : w1.heap.size + 1 ≤ w2.heap.size := Nat.le_trans (show w1.heap.size + 1 ≤ (((w1.alloc (.cells #[.int .i64 x] 3)).alloc (.cells #[] 3)).drew).heap.size from Nat.le_trans (Nat.le_of_eq (World.size_alloc w1 _).symm) (below_alloc _ _).size) hgrow.size; have HX : Hid (Ow w2 w1.heap.size (.slice (some ⟨w1.heap.size, 0, none⟩) 1 1) [x]) := Lib.hid (own_gr (own_below (ow_one w1 x w1.heap.size _ rfl (Nat.le_refl _)) (below_trans (below_alloc _ _) (drew_below _))) hgrow (fun g1 g2 h1 h2 => by simp only [Value.ownBlock, Option.some.injEq] at h1 h2; omega)); have HL : Hid (∀ g1, (Value.slice a2 (ys).length cap2).ownBlock = some g1 → g1 = w1.heap.size + 1 ∨ w1.heap.size + 2 ≤ g1) := Lib.hid (fun g1 h1 => by rcases hloc with hloc | hloc <;> rw [hloc] at h1 <;> simp only [Value.ownBlock, Option.some.injEq] at h1 <;> first | (left; exact h1.symm) | (right; subst h1; exact Nat.le_of_eq (by show _ = ((w1.alloc _).alloc _).heap.size; rw [World.size_alloc, World.size_alloc]))); clear hown hgrow hloc hd))
        all_goals go_wp2_with fail
        · refine bodyPost_ret (v := .tuple #[.agg #[.slice a2 ys.length cap2], .slice (some ⟨w2.heap.size, 0, none⟩) 1 1, .bool true]) (by simp [results, Try.results27, go_sem, aR2]) rfl ⟨a2, cap2, some ⟨w2.heap.size, 0, none⟩, 1, rfl, ?_, ?_, ne_lt (own_hi HD.out) (by intro g hg; simp [Value.ownBlock] at hg; omega), (TB.out.alloc TB.out.size _).setCell (by simp) _⟩
          · exact own_base (ownsRow_setCell_below (own_below HD.out (below_alloc _ _)) (by show _ + 1 < _; omega) _) (by omega)
          · exact own_base (ownsRow_setCell_below (ow_one w2 x w2.heap.size _ rfl (Nat.le_refl _)) (by show _ + 1 < _; omega) _) (by omega)
        · have e9 : ∀ u o, ((w2.setCell ⟨w.heap.size + 1, 0, none⟩ u).alloc o).cell? ⟨w.heap.size + 1, 0, none⟩ = some u := fun u o => cell_b (w := w2.setCell ⟨w.heap.size + 1, 0, none⟩ u) (p := ⟨w.heap.size + 1, 0, none⟩) (v := u) (World.cell?_setCell_same w2 ⟨w.heap.size + 1, 0, none⟩ u cR2) (below_alloc _ o)
          refine bodyPost_ret (v := .tuple #[.agg #[.slice a2 ys.length cap2], .slice (some ⟨w2.heap.size, 0, none⟩) 1 1, .bool true]) (by simp [results, Try.results27, go_sem, e9]) rfl ⟨a2, cap2, some ⟨w2.heap.size, 0, none⟩, 1, rfl, ?_, ?_, ne_lt (own_hi HD.out) (by intro g hg; simp [Value.ownBlock] at hg; omega), (TB.out.setCell (by simp) _).alloc (by simpa using TB.out.size) _⟩
          · exact own_base (own_below (ownsRow_setCell_below HD.out (by show _ + 1 < _; omega) _) (below_alloc _ _)) (by omega)
          · exact own_base (ow_one _ x w2.heap.size _ (by simp) (Nat.le_refl _)) (by omega)
        · refine bodyPost_ret (v := .tuple #[.agg #[.slice a2 ys.length cap2], .slice (some ⟨w1.heap.size + 1, 0, none⟩) 1 1, .bool true]) (by simp [results, Try.results27, go_sem, cR2]) rfl ⟨a2, cap2, some ⟨w1.heap.size + 1, 0, none⟩, 1, rfl, ?_, ?_, ?_, TB.out.setCell (by simp) _⟩
          · exact own_base (ownsRow_setCell_below HD.out (by show _ + 1 < _; omega) _) (by omega)
          · exact own_base (ownsRow_setCell_below HX.out (by show _ + 1 < _; omega) _) (by omega)
          · exact fun g1 g2 h1 h2 => by have h3 := HL.out g1 h1; simp only [Value.ownBlock, Option.some.injEq] at h2; omega
        · refine bodyPost_ret (v := .tuple #[.agg #[.slice a2 ys.length cap2], .slice (some ⟨w1.heap.size, 0, none⟩) 1 1, .bool true]) (by simp [results, Try.results27, go_sem, cR2]) rfl ⟨a2, cap2, some ⟨w1.heap.size, 0, none⟩, 1, rfl, ?_, ?_, ?_, TB.out.setCell (by simp) _⟩
          · exact own_base (ownsRow_setCell_below HD.out (by show _ + 1 < _; omega) _) (by omega)
          · exact own_base (ownsRow_setCell_below HX.out (by show _ + 1 < _; omega) _) (by omega)
          · exact fun g1 g2 h1 h2 => by have h3 := HL.out g1 h1; simp only [Value.ownBlock, Option.some.injEq] at h2; omega

  · have hv' : vt xs = false := by simpa using hv
    rw [hv']
    clear hv hnc hr
    go_enter Try.func27, Try.ntmps27
    go_wp2_with fail
    refine (S_CondValid _ _ xs (rd_alloc (rd_alloc HR.out _) _) (by omega)).mono ?_
    rintro e w1 ⟨rfl, hb⟩
    have T1 := Lib.hid (below_trans (below_alloc _ _) (below_trans (below_alloc _ _) hb))
    have cA := cell_b (p := ⟨w.heap.size, 0, none⟩) (v := .slice a xs.length cap) (by simp) hb
    have cR := cell_b (p := ⟨w.heap.size + 1, 0, none⟩) (v := .slice none 0 0) (by simp) hb
    have fR : w1.frozen? ⟨w.heap.size + 1, 0, none⟩ = false := (hb.frozen (p := ⟨w.heap.size + 1, 0, none⟩) (by simp; try omega)).trans (by simp)
    have aA := fun o => cell_b cA (below_alloc _ o)
    have aR := fun o => cell_b cR (below_alloc _ o)
    have gR := fun o => frz_b (cell_lt cR) fR (below_alloc _ o)
    have z1 : w.heap.size + 2 ≤ w1.heap.size := (by have := hb.size; (try simp at this); omega)
    clear hb
    go_wp2_with fail
    exact bodyPost_ret (v := .tuple #[.agg #[.slice none 0 0], .slice (some ⟨w1.heap.size, 0, none⟩) 0 0, .bool false]) (by simp [results, Try.results27, go_sem, aR]) rfl ⟨_, _, _, _, rfl, ow_nil _ _, own_base (ownsRow_setCell_below (ow_made w1 _ (Nat.le_refl _)) (by show _ + 1 < _; omega) _) (by omega), ne_nil _ _ _, (T1.out.alloc T1.out.size _).setCell (by simp) _⟩
end Go.Proofs.Ytkglngcopflgeaa
