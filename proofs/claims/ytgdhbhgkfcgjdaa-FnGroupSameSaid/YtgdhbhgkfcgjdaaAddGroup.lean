/- Contracts of AddGroup. -/
import Derived.Test.YtgdhbhgkfcgjdaaGroup
import Derived.Deep.RegionHeld3
namespace Go.Proofs.Ytgdhbhgkfcgjdaa
open Go.RowKit
/-- What AddGroup hands back: count, waits, who is told, ok. -/
def addG (c : Int) (xs : List Int) (n : Int) : Int × List Int × List Int × Bool :=
  if (gval c xs && decide (-99 ≤ n) && decide (n ≤ 99) && val (c + n)) = true then (if c + n = 0 then (0, [], xs, true) else (c + n, xs, [], true)) else (0, [], [], false)
theorem addG_len1 (c : Int) (xs : List Int) (n : Int) : (addG c xs n).2.1.length ≤ xs.length := by unfold addG; split <;> (try split) <;> simp
theorem addG_len2 (c : Int) (xs : List Int) (n : Int) : (addG c xs n).2.2.1.length ≤ xs.length := by unfold addG; split <;> (try split) <;> simp

set_option maxHeartbeats 4000000 in
set_option maxRecDepth 100000 in
theorem I_AddGroup (w : World) (c : Int) (v : Value) (xs : List Int) (n : Int) (hr : Rd w v xs) (hl : xs.length ≤ 4294967296) :
    Calls Try.prog 20 #[.agg #[.int .i64 c, v], .int .i64 n] w fun e w' => ∃ a cap b cap', e = .returned (.tuple #[.agg #[.int .i64 (addG c xs n).1, .slice a (addG c xs n).2.1.length cap], .slice b (addG c xs n).2.2.1.length cap', .bool (addG c xs n).2.2.2]) ∧
      Ow w' w.heap.size (.slice a (addG c xs n).2.1.length cap) (addG c xs n).2.1 ∧ Ow w' w.heap.size (.slice b (addG c xs n).2.2.1.length cap') (addG c xs n).2.2.1 ∧
      NE (.slice a (addG c xs n).2.1.length cap) (.slice b (addG c xs n).2.2.1.length cap') ∧ Below w.heap.size w w' := by
  obtain ⟨i0, hi, hz0, hz1, hz2⟩ := info_parts info3
  have HR := Lib.hid hr
  obtain ⟨a, cap, rfl, hcap, hnc, hr⟩ := hr
  clear hr hnc
  by_cases hv : gval c xs = true
  · by_cases h1 : -99 ≤ n
    · by_cases h2 : n ≤ 99
      · by_cases hk : val (c + n) = true
        · by_cases hz : c + n = 0
          · have hk0 : val 0 = true := by simp [val]
            have g1 := (gval_in hv).1
            have g2 := (gval_in hv).2.1
            have e0 : addG c xs n = (0, [], xs, true) := by simp [addG, hv, h1, h2, hz, val]
            simp only [e0]
            clear e0
            go_enter Try.func20, Try.ntmps20
            have T0 := Lib.hid (Below.refl w.heap.size w)
            go_wp2_with fail
            refine (I_GroupValid _ c _ xs (rd_alloc (rd_alloc (rd_below HR.out T0.out) _) _) (by omega)).mono ?_
            rintro e w1 ⟨rfl, hb⟩
            have D1 : Below w.heap.size w w1 := below_trans (below_alloc _ _) (below_trans (below_alloc _ _) (hb))
            have T1 := Lib.hid (below_trans T0.out D1)
            have z1 : w.heap.size + 2 ≤ w1.heap.size := (by have := hb.size; (try simp at this); omega)
            have c_A0_1 := cell_b (p := ⟨w.heap.size, 0, none⟩) (v := .int .i64 c) (by simp) hb
            have c_A1_1 := cell_b (p := ⟨w.heap.size, 1, none⟩) (v := .slice a xs.length cap) (by simp) hb
            have c_R0_1 := cell_b (p := ⟨w.heap.size + 1, 0, none⟩) (v := .int .i64 0) (by simp) hb
            have f_R0_1 : w1.frozen? ⟨w.heap.size + 1, 0, none⟩ = false := (hb.frozen (p := ⟨w.heap.size + 1, 0, none⟩) (by simp; try omega)).trans (by simp)
            have c_R1_1 := cell_b (p := ⟨w.heap.size + 1, 1, none⟩) (v := .slice none 0 0) (by simp) hb
            have f_R1_1 : w1.frozen? ⟨w.heap.size + 1, 1, none⟩ = false := (hb.frozen (p := ⟨w.heap.size + 1, 1, none⟩) (by simp; try omega)).trans (by simp)
            have ac_A0_1 := fun o => cell_b c_A0_1 (below_alloc _ o)
            have bc_A0_1 := fun o o1 => cell_b (ac_A0_1 o) (below_alloc _ o1)
            have ac_A1_1 := fun o => cell_b c_A1_1 (below_alloc _ o)
            have bc_A1_1 := fun o o1 => cell_b (ac_A1_1 o) (below_alloc _ o1)
            have ac_R0_1 := fun o => cell_b c_R0_1 (below_alloc _ o)
            have bc_R0_1 := fun o o1 => cell_b (ac_R0_1 o) (below_alloc _ o1)
            have ac_R1_1 := fun o => cell_b c_R1_1 (below_alloc _ o)
            have bc_R1_1 := fun o o1 => cell_b (ac_R1_1 o) (below_alloc _ o1)
            have af_R0_1 := fun o => frz_b (cell_lt c_R0_1) f_R0_1 (below_alloc _ o)
            have bf_R0_1 := fun o o1 => frz_b (cell_lt (ac_R0_1 o)) (af_R0_1 o) (below_alloc _ o1)
            have af_R1_1 := fun o => frz_b (cell_lt c_R1_1) f_R1_1 (below_alloc _ o)
            have bf_R1_1 := fun o o1 => frz_b (cell_lt (ac_R1_1 o)) (af_R1_1 o) (below_alloc _ o1)
            clear hb D1 T0
            go_wp2_with fail
            refine (same_b (I_isValue _ 0)).mono ?_
            rintro e w2 ⟨rfl, hb⟩
            have D2 : Below w1.heap.size w1 w2 := hb
            have c_A0_2 := cell_b c_A0_1 D2
            have c_A1_2 := cell_b c_A1_1 D2
            have c_R0_2 := cell_b c_R0_1 D2
            have c_R1_2 := cell_b c_R1_1 D2
            have f_R0_2 := (D2.frozen (p := ⟨w.heap.size + 1, 0, none⟩) (World.block_lt_of_cell? _ _ c_R0_1)).trans f_R0_1
            have f_R1_2 := (D2.frozen (p := ⟨w.heap.size + 1, 1, none⟩) (World.block_lt_of_cell? _ _ c_R1_1)).trans f_R1_1
            have T2 := Lib.hid (below_trans T1.out D2)
            have z2 : w1.heap.size ≤ w2.heap.size := (by have := hb.size; (try simp at this); omega)
            have ac_A0_2 := fun o => cell_b c_A0_2 (below_alloc _ o)
            have bc_A0_2 := fun o o1 => cell_b (ac_A0_2 o) (below_alloc _ o1)
            have ac_A1_2 := fun o => cell_b c_A1_2 (below_alloc _ o)
            have bc_A1_2 := fun o o1 => cell_b (ac_A1_2 o) (below_alloc _ o1)
            have ac_R0_2 := fun o => cell_b c_R0_2 (below_alloc _ o)
            have bc_R0_2 := fun o o1 => cell_b (ac_R0_2 o) (below_alloc _ o1)
            have ac_R1_2 := fun o => cell_b c_R1_2 (below_alloc _ o)
            have bc_R1_2 := fun o o1 => cell_b (ac_R1_2 o) (below_alloc _ o1)
            have af_R0_2 := fun o => frz_b (cell_lt c_R0_2) f_R0_2 (below_alloc _ o)
            have bf_R0_2 := fun o o1 => frz_b (cell_lt (ac_R0_2 o)) (af_R0_2 o) (below_alloc _ o1)
            have af_R1_2 := fun o => frz_b (cell_lt c_R1_2) f_R1_2 (below_alloc _ o)
            have bf_R1_2 := fun o o1 => frz_b (cell_lt (ac_R1_2 o)) (af_R1_2 o) (below_alloc _ o1)
            clear ac_A0_1 bc_A0_1 ac_A1_1 bc_A1_1 ac_R0_1 bc_R0_1 ac_R1_1 bc_R1_1 af_R0_1 bf_R0_1 af_R1_1 bf_R1_1 c_A0_1 c_A1_1 c_R0_1 c_R1_1 f_R0_1 f_R1_1 hb D2 T1
            go_wp2_with fail
            refine (I_cloneInts _ _ xs (rd_below HR.out T2.out) (by omega)).mono ?_
            rintro e w3 ⟨a3, cap3, rfl, hd, hb⟩
            have D3 : Below w2.heap.size w2 w3 := hb
            have c_A0_3 := cell_b c_A0_2 D3
            have c_A1_3 := cell_b c_A1_2 D3
            have c_R0_3 := cell_b c_R0_2 D3
            have c_R1_3 := cell_b c_R1_2 D3
            have f_R0_3 := (D3.frozen (p := ⟨w.heap.size + 1, 0, none⟩) (World.block_lt_of_cell? _ _ c_R0_2)).trans f_R0_2
            have f_R1_3 := (D3.frozen (p := ⟨w.heap.size + 1, 1, none⟩) (World.block_lt_of_cell? _ _ c_R1_2)).trans f_R1_2
            have T3 := Lib.hid (below_trans T2.out D3)
            have z3 : w2.heap.size ≤ w3.heap.size := (by have := hb.size; (try simp at this); omega)
            have o_d_3 := Lib.hid (own_base hd (show w2.heap.size ≤ _ by simp; try omega))
            have lo_d := Lib.hid (own_lo o_d_3.out)
            have hi_d := Lib.hid (own_hi o_d_3.out)
            have ac_A0_3 := fun o => cell_b c_A0_3 (below_alloc _ o)
            have bc_A0_3 := fun o o1 => cell_b (ac_A0_3 o) (below_alloc _ o1)
            have ac_A1_3 := fun o => cell_b c_A1_3 (below_alloc _ o)
            have bc_A1_3 := fun o o1 => cell_b (ac_A1_3 o) (below_alloc _ o1)
            have ac_R0_3 := fun o => cell_b c_R0_3 (below_alloc _ o)
            have bc_R0_3 := fun o o1 => cell_b (ac_R0_3 o) (below_alloc _ o1)
            have ac_R1_3 := fun o => cell_b c_R1_3 (below_alloc _ o)
            have bc_R1_3 := fun o o1 => cell_b (ac_R1_3 o) (below_alloc _ o1)
            have af_R0_3 := fun o => frz_b (cell_lt c_R0_3) f_R0_3 (below_alloc _ o)
            have bf_R0_3 := fun o o1 => frz_b (cell_lt (ac_R0_3 o)) (af_R0_3 o) (below_alloc _ o1)
            have af_R1_3 := fun o => frz_b (cell_lt c_R1_3) f_R1_3 (below_alloc _ o)
            have bf_R1_3 := fun o o1 => frz_b (cell_lt (ac_R1_3 o)) (af_R1_3 o) (below_alloc _ o1)
            clear ac_A0_2 bc_A0_2 ac_A1_2 bc_A1_2 ac_R0_2 bc_R0_2 ac_R1_2 bc_R1_2 af_R0_2 bf_R0_2 af_R1_2 bf_R1_2 c_A0_2 c_A1_2 c_R0_2 c_R1_2 f_R0_2 f_R1_2 hb D3 hd T2
            go_wp2_with fail
            have O3 := o_d_3.out
            refine bodyPost_ret (v := .tuple #[.agg #[.int .i64 0, .slice none 0 0], .slice a3 xs.length cap3, .bool true]) (by simp [results, Try.results20, go_sem, c_R0_3, c_R1_3]) rfl ⟨_, _, _, _, rfl, ow_nil _ _, ?_, ne_nil _ _ _, ((T3.out).setCell (by simp) _).setCell (by simp) _⟩
            refine own_base (b := w2.heap.size) ?_ (by omega)
            repeat (first | exact O3 | refine ownsRow_setCell_below ?_ (by show _ + 1 < _; omega) _)
          · have hz' : ¬ c + n = 0 := by omega
            clear hz
            have hz := hz'
            have g1 := (gval_in hv).1
            have g2 := (gval_in hv).2.1
            have e0 : addG c xs n = (c + n, xs, [], true) := by simp [addG, hv, h1, h2, hk, hz]
            simp only [e0]
            clear e0
            go_enter Try.func20, Try.ntmps20
            have T0 := Lib.hid (Below.refl w.heap.size w)
            go_wp2_with fail
            refine (I_GroupValid _ c _ xs (rd_alloc (rd_alloc (rd_below HR.out T0.out) _) _) (by omega)).mono ?_
            rintro e w1 ⟨rfl, hb⟩
            have D1 : Below w.heap.size w w1 := below_trans (below_alloc _ _) (below_trans (below_alloc _ _) (hb))
            have T1 := Lib.hid (below_trans T0.out D1)
            have z1 : w.heap.size + 2 ≤ w1.heap.size := (by have := hb.size; (try simp at this); omega)
            have c_A0_1 := cell_b (p := ⟨w.heap.size, 0, none⟩) (v := .int .i64 c) (by simp) hb
            have c_A1_1 := cell_b (p := ⟨w.heap.size, 1, none⟩) (v := .slice a xs.length cap) (by simp) hb
            have c_R0_1 := cell_b (p := ⟨w.heap.size + 1, 0, none⟩) (v := .int .i64 0) (by simp) hb
            have f_R0_1 : w1.frozen? ⟨w.heap.size + 1, 0, none⟩ = false := (hb.frozen (p := ⟨w.heap.size + 1, 0, none⟩) (by simp; try omega)).trans (by simp)
            have c_R1_1 := cell_b (p := ⟨w.heap.size + 1, 1, none⟩) (v := .slice none 0 0) (by simp) hb
            have f_R1_1 : w1.frozen? ⟨w.heap.size + 1, 1, none⟩ = false := (hb.frozen (p := ⟨w.heap.size + 1, 1, none⟩) (by simp; try omega)).trans (by simp)
            have ac_A0_1 := fun o => cell_b c_A0_1 (below_alloc _ o)
            have bc_A0_1 := fun o o1 => cell_b (ac_A0_1 o) (below_alloc _ o1)
            have ac_A1_1 := fun o => cell_b c_A1_1 (below_alloc _ o)
            have bc_A1_1 := fun o o1 => cell_b (ac_A1_1 o) (below_alloc _ o1)
            have ac_R0_1 := fun o => cell_b c_R0_1 (below_alloc _ o)
            have bc_R0_1 := fun o o1 => cell_b (ac_R0_1 o) (below_alloc _ o1)
            have ac_R1_1 := fun o => cell_b c_R1_1 (below_alloc _ o)
            have bc_R1_1 := fun o o1 => cell_b (ac_R1_1 o) (below_alloc _ o1)
            have af_R0_1 := fun o => frz_b (cell_lt c_R0_1) f_R0_1 (below_alloc _ o)
            have bf_R0_1 := fun o o1 => frz_b (cell_lt (ac_R0_1 o)) (af_R0_1 o) (below_alloc _ o1)
            have af_R1_1 := fun o => frz_b (cell_lt c_R1_1) f_R1_1 (below_alloc _ o)
            have bf_R1_1 := fun o o1 => frz_b (cell_lt (ac_R1_1 o)) (af_R1_1 o) (below_alloc _ o1)
            clear hb D1 T0
            go_wp2_with fail
            refine (same_b (I_isValue _ (c + n))).mono ?_
            rintro e w2 ⟨rfl, hb⟩
            have D2 : Below w1.heap.size w1 w2 := hb
            have c_A0_2 := cell_b c_A0_1 D2
            have c_A1_2 := cell_b c_A1_1 D2
            have c_R0_2 := cell_b c_R0_1 D2
            have c_R1_2 := cell_b c_R1_1 D2
            have f_R0_2 := (D2.frozen (p := ⟨w.heap.size + 1, 0, none⟩) (World.block_lt_of_cell? _ _ c_R0_1)).trans f_R0_1
            have f_R1_2 := (D2.frozen (p := ⟨w.heap.size + 1, 1, none⟩) (World.block_lt_of_cell? _ _ c_R1_1)).trans f_R1_1
            have T2 := Lib.hid (below_trans T1.out D2)
            have z2 : w1.heap.size ≤ w2.heap.size := (by have := hb.size; (try simp at this); omega)
            have ac_A0_2 := fun o => cell_b c_A0_2 (below_alloc _ o)
            have bc_A0_2 := fun o o1 => cell_b (ac_A0_2 o) (below_alloc _ o1)
            have ac_A1_2 := fun o => cell_b c_A1_2 (below_alloc _ o)
            have bc_A1_2 := fun o o1 => cell_b (ac_A1_2 o) (below_alloc _ o1)
            have ac_R0_2 := fun o => cell_b c_R0_2 (below_alloc _ o)
            have bc_R0_2 := fun o o1 => cell_b (ac_R0_2 o) (below_alloc _ o1)
            have ac_R1_2 := fun o => cell_b c_R1_2 (below_alloc _ o)
            have bc_R1_2 := fun o o1 => cell_b (ac_R1_2 o) (below_alloc _ o1)
            have af_R0_2 := fun o => frz_b (cell_lt c_R0_2) f_R0_2 (below_alloc _ o)
            have bf_R0_2 := fun o o1 => frz_b (cell_lt (ac_R0_2 o)) (af_R0_2 o) (below_alloc _ o1)
            have af_R1_2 := fun o => frz_b (cell_lt c_R1_2) f_R1_2 (below_alloc _ o)
            have bf_R1_2 := fun o o1 => frz_b (cell_lt (ac_R1_2 o)) (af_R1_2 o) (below_alloc _ o1)
            clear ac_A0_1 bc_A0_1 ac_A1_1 bc_A1_1 ac_R0_1 bc_R0_1 ac_R1_1 bc_R1_1 af_R0_1 bf_R0_1 af_R1_1 bf_R1_1 c_A0_1 c_A1_1 c_R0_1 c_R1_1 f_R0_1 f_R1_1 hb D2 T1
            go_wp2_with fail
            go_region_held3 (fun w' => w'.cell? ⟨w.heap.size, 0, none⟩ = some (.int .i64 c) ∧ w'.cell? ⟨w.heap.size, 1, none⟩ = some (.slice a xs.length cap)) (first | exact ⟨c_A0_2, c_A1_2⟩ | exact ⟨c_A0_3, c_A1_3⟩ | go_keep)
              (first | (go_at_call 46; refine (I_cloneInts _ _ xs (rd_drew (rd_below HR.out T2.out)) (by omega)).mono ?_; rintro e w3 ⟨a3, cap3, rfl, hd, hb⟩; have D3 : Below w2.heap.size w2 w3 := below_trans (drew_below _) (hb); have c_A0_3 := cell_b c_A0_2 D3; have c_A1_3 := cell_b c_A1_2 D3; have c_R0_3 := cell_b c_R0_2 D3; have c_R1_3 := cell_b c_R1_2 D3; have f_R0_3 := (D3.frozen (p := ⟨w.heap.size + 1, 0, none⟩) (World.block_lt_of_cell? _ _ c_R0_2)).trans f_R0_2; have f_R1_3 := (D3.frozen (p := ⟨w.heap.size + 1, 1, none⟩) (World.block_lt_of_cell? _ _ c_R1_2)).trans f_R1_2; have T3 := Lib.hid (below_trans T2.out D3); have z3 : w2.heap.size ≤ w3.heap.size := (by have := hb.size; (try simp at this); omega); have o_d_3 := Lib.hid (own_base hd (show w2.heap.size ≤ _ by simp; try omega)); have lo_d := Lib.hid (own_lo o_d_3.out); have hi_d := Lib.hid (own_hi o_d_3.out); have ac_A0_3 := fun o => cell_b c_A0_3 (below_alloc _ o); have bc_A0_3 := fun o o1 => cell_b (ac_A0_3 o) (below_alloc _ o1); have ac_A1_3 := fun o => cell_b c_A1_3 (below_alloc _ o); have bc_A1_3 := fun o o1 => cell_b (ac_A1_3 o) (below_alloc _ o1); have ac_R0_3 := fun o => cell_b c_R0_3 (below_alloc _ o); have bc_R0_3 := fun o o1 => cell_b (ac_R0_3 o) (below_alloc _ o1); have ac_R1_3 := fun o => cell_b c_R1_3 (below_alloc _ o); have bc_R1_3 := fun o o1 => cell_b (ac_R1_3 o) (below_alloc _ o1); have af_R0_3 := fun o => frz_b (cell_lt c_R0_3) f_R0_3 (below_alloc _ o); have bf_R0_3 := fun o o1 => frz_b (cell_lt (ac_R0_3 o)) (af_R0_3 o) (below_alloc _ o1); have af_R1_3 := fun o => frz_b (cell_lt c_R1_3) f_R1_3 (below_alloc _ o); have bf_R1_3 := fun o o1 => frz_b (cell_lt (ac_R1_3 o)) (af_R1_3 o) (below_alloc _ o1); clear ac_A0_2 bc_A0_2 ac_A1_2 bc_A1_2 ac_R0_2 bc_R0_2 ac_R1_2 bc_R1_2 af_R0_2 bf_R0_2 af_R1_2 bf_R1_2 c_A0_2 c_A1_2 c_R0_2 c_R1_2 f_R0_2 f_R1_2 hb D3 hd T2))
            have hw : IntKind.i64.wrap (c + n) = c + n := by rw [IntKind.wrap_i64]; omega
            all_goals go_wp2_with fail
            have O3 := o_d_3.out
            refine bodyPost_ret (v := .tuple #[.agg #[.int .i64 (c + n), .slice a3 xs.length cap3], .slice none 0 0, .bool true]) (by simp [results, Try.results20, go_sem, c_R0_3, c_R1_3, hw]) rfl ⟨_, _, _, _, rfl, ?_, ow_nil _ _, ne_nil' _ _ _, ((T3.out).setCell (by simp) _).setCell (by simp) _⟩
            refine own_base (b := w2.heap.size) ?_ (by omega)
            repeat (first | exact O3 | refine ownsRow_setCell_below ?_ (by show _ + 1 < _; omega) _)
        · have hk' : val (c + n) = false := by simpa using hk
          clear hk
          have g1 := (gval_in hv).1
          have g2 := (gval_in hv).2.1
          have e0 : addG c xs n = (0, [], [], false) := by simp [addG, hv, h1, h2, hk']
          simp only [e0]
          clear e0
          go_enter Try.func20, Try.ntmps20
          have T0 := Lib.hid (Below.refl w.heap.size w)
          go_wp2_with fail
          refine (I_GroupValid _ c _ xs (rd_alloc (rd_alloc (rd_below HR.out T0.out) _) _) (by omega)).mono ?_
          rintro e w1 ⟨rfl, hb⟩
          have D1 : Below w.heap.size w w1 := below_trans (below_alloc _ _) (below_trans (below_alloc _ _) (hb))
          have T1 := Lib.hid (below_trans T0.out D1)
          have z1 : w.heap.size + 2 ≤ w1.heap.size := (by have := hb.size; (try simp at this); omega)
          have c_A0_1 := cell_b (p := ⟨w.heap.size, 0, none⟩) (v := .int .i64 c) (by simp) hb
          have c_A1_1 := cell_b (p := ⟨w.heap.size, 1, none⟩) (v := .slice a xs.length cap) (by simp) hb
          have c_R0_1 := cell_b (p := ⟨w.heap.size + 1, 0, none⟩) (v := .int .i64 0) (by simp) hb
          have f_R0_1 : w1.frozen? ⟨w.heap.size + 1, 0, none⟩ = false := (hb.frozen (p := ⟨w.heap.size + 1, 0, none⟩) (by simp; try omega)).trans (by simp)
          have c_R1_1 := cell_b (p := ⟨w.heap.size + 1, 1, none⟩) (v := .slice none 0 0) (by simp) hb
          have f_R1_1 : w1.frozen? ⟨w.heap.size + 1, 1, none⟩ = false := (hb.frozen (p := ⟨w.heap.size + 1, 1, none⟩) (by simp; try omega)).trans (by simp)
          have ac_A0_1 := fun o => cell_b c_A0_1 (below_alloc _ o)
          have bc_A0_1 := fun o o1 => cell_b (ac_A0_1 o) (below_alloc _ o1)
          have ac_A1_1 := fun o => cell_b c_A1_1 (below_alloc _ o)
          have bc_A1_1 := fun o o1 => cell_b (ac_A1_1 o) (below_alloc _ o1)
          have ac_R0_1 := fun o => cell_b c_R0_1 (below_alloc _ o)
          have bc_R0_1 := fun o o1 => cell_b (ac_R0_1 o) (below_alloc _ o1)
          have ac_R1_1 := fun o => cell_b c_R1_1 (below_alloc _ o)
          have bc_R1_1 := fun o o1 => cell_b (ac_R1_1 o) (below_alloc _ o1)
          have af_R0_1 := fun o => frz_b (cell_lt c_R0_1) f_R0_1 (below_alloc _ o)
          have bf_R0_1 := fun o o1 => frz_b (cell_lt (ac_R0_1 o)) (af_R0_1 o) (below_alloc _ o1)
          have af_R1_1 := fun o => frz_b (cell_lt c_R1_1) f_R1_1 (below_alloc _ o)
          have bf_R1_1 := fun o o1 => frz_b (cell_lt (ac_R1_1 o)) (af_R1_1 o) (below_alloc _ o1)
          clear hb D1 T0
          go_wp2_with fail
          refine (same_b (I_isValue _ (c + n))).mono ?_
          rintro e w2 ⟨rfl, hb⟩
          have D2 : Below w1.heap.size w1 w2 := hb
          have c_A0_2 := cell_b c_A0_1 D2
          have c_A1_2 := cell_b c_A1_1 D2
          have c_R0_2 := cell_b c_R0_1 D2
          have c_R1_2 := cell_b c_R1_1 D2
          have f_R0_2 := (D2.frozen (p := ⟨w.heap.size + 1, 0, none⟩) (World.block_lt_of_cell? _ _ c_R0_1)).trans f_R0_1
          have f_R1_2 := (D2.frozen (p := ⟨w.heap.size + 1, 1, none⟩) (World.block_lt_of_cell? _ _ c_R1_1)).trans f_R1_1
          have T2 := Lib.hid (below_trans T1.out D2)
          have z2 : w1.heap.size ≤ w2.heap.size := (by have := hb.size; (try simp at this); omega)
          have ac_A0_2 := fun o => cell_b c_A0_2 (below_alloc _ o)
          have bc_A0_2 := fun o o1 => cell_b (ac_A0_2 o) (below_alloc _ o1)
          have ac_A1_2 := fun o => cell_b c_A1_2 (below_alloc _ o)
          have bc_A1_2 := fun o o1 => cell_b (ac_A1_2 o) (below_alloc _ o1)
          have ac_R0_2 := fun o => cell_b c_R0_2 (below_alloc _ o)
          have bc_R0_2 := fun o o1 => cell_b (ac_R0_2 o) (below_alloc _ o1)
          have ac_R1_2 := fun o => cell_b c_R1_2 (below_alloc _ o)
          have bc_R1_2 := fun o o1 => cell_b (ac_R1_2 o) (below_alloc _ o1)
          have af_R0_2 := fun o => frz_b (cell_lt c_R0_2) f_R0_2 (below_alloc _ o)
          have bf_R0_2 := fun o o1 => frz_b (cell_lt (ac_R0_2 o)) (af_R0_2 o) (below_alloc _ o1)
          have af_R1_2 := fun o => frz_b (cell_lt c_R1_2) f_R1_2 (below_alloc _ o)
          have bf_R1_2 := fun o o1 => frz_b (cell_lt (ac_R1_2 o)) (af_R1_2 o) (below_alloc _ o1)
          clear ac_A0_1 bc_A0_1 ac_A1_1 bc_A1_1 ac_R0_1 bc_R0_1 ac_R1_1 bc_R1_1 af_R0_1 bf_R0_1 af_R1_1 bf_R1_1 c_A0_1 c_A1_1 c_R0_1 c_R1_1 f_R0_1 f_R1_1 hb D2 T1
          go_wp2_with fail
          refine bodyPost_ret (v := .tuple #[.agg #[.int .i64 0, .slice none 0 0], .slice none 0 0, .bool false]) (by simp [results, Try.results20, go_sem, c_R0_2, c_R1_2]) rfl ⟨_, _, _, _, rfl, ow_nil _ _, ow_nil _ _, ne_nil _ _ _, ((T2.out).setCell (by simp) _).setCell (by simp) _⟩
      · have h2' : 99 < n := by omega
        clear h2
        have e0 : addG c xs n = (0, [], [], false) := by simp [addG, show ¬ n ≤ 99 by omega]
        simp only [e0]
        clear e0
        go_enter Try.func20, Try.ntmps20
        have T0 := Lib.hid (Below.refl w.heap.size w)
        go_wp2_with fail
        refine (I_GroupValid _ c _ xs (rd_alloc (rd_alloc (rd_below HR.out T0.out) _) _) (by omega)).mono ?_
        rintro e w1 ⟨rfl, hb⟩
        have D1 : Below w.heap.size w w1 := below_trans (below_alloc _ _) (below_trans (below_alloc _ _) (hb))
        have T1 := Lib.hid (below_trans T0.out D1)
        have z1 : w.heap.size + 2 ≤ w1.heap.size := (by have := hb.size; (try simp at this); omega)
        have c_A0_1 := cell_b (p := ⟨w.heap.size, 0, none⟩) (v := .int .i64 c) (by simp) hb
        have c_A1_1 := cell_b (p := ⟨w.heap.size, 1, none⟩) (v := .slice a xs.length cap) (by simp) hb
        have c_R0_1 := cell_b (p := ⟨w.heap.size + 1, 0, none⟩) (v := .int .i64 0) (by simp) hb
        have f_R0_1 : w1.frozen? ⟨w.heap.size + 1, 0, none⟩ = false := (hb.frozen (p := ⟨w.heap.size + 1, 0, none⟩) (by simp; try omega)).trans (by simp)
        have c_R1_1 := cell_b (p := ⟨w.heap.size + 1, 1, none⟩) (v := .slice none 0 0) (by simp) hb
        have f_R1_1 : w1.frozen? ⟨w.heap.size + 1, 1, none⟩ = false := (hb.frozen (p := ⟨w.heap.size + 1, 1, none⟩) (by simp; try omega)).trans (by simp)
        have ac_A0_1 := fun o => cell_b c_A0_1 (below_alloc _ o)
        have bc_A0_1 := fun o o1 => cell_b (ac_A0_1 o) (below_alloc _ o1)
        have ac_A1_1 := fun o => cell_b c_A1_1 (below_alloc _ o)
        have bc_A1_1 := fun o o1 => cell_b (ac_A1_1 o) (below_alloc _ o1)
        have ac_R0_1 := fun o => cell_b c_R0_1 (below_alloc _ o)
        have bc_R0_1 := fun o o1 => cell_b (ac_R0_1 o) (below_alloc _ o1)
        have ac_R1_1 := fun o => cell_b c_R1_1 (below_alloc _ o)
        have bc_R1_1 := fun o o1 => cell_b (ac_R1_1 o) (below_alloc _ o1)
        have af_R0_1 := fun o => frz_b (cell_lt c_R0_1) f_R0_1 (below_alloc _ o)
        have bf_R0_1 := fun o o1 => frz_b (cell_lt (ac_R0_1 o)) (af_R0_1 o) (below_alloc _ o1)
        have af_R1_1 := fun o => frz_b (cell_lt c_R1_1) f_R1_1 (below_alloc _ o)
        have bf_R1_1 := fun o o1 => frz_b (cell_lt (ac_R1_1 o)) (af_R1_1 o) (below_alloc _ o1)
        clear hb D1 T0
        go_wp2_with fail
        refine bodyPost_ret (v := .tuple #[.agg #[.int .i64 0, .slice none 0 0], .slice none 0 0, .bool false]) (by simp [results, Try.results20, go_sem, c_R0_1, c_R1_1]) rfl ⟨_, _, _, _, rfl, ow_nil _ _, ow_nil _ _, ne_nil _ _ _, ((T1.out).setCell (by simp) _).setCell (by simp) _⟩
    · have h1' : n < -99 := by omega
      clear h1
      have e0 : addG c xs n = (0, [], [], false) := by simp [addG, show ¬ -99 ≤ n by omega]
      simp only [e0]
      clear e0
      go_enter Try.func20, Try.ntmps20
      have T0 := Lib.hid (Below.refl w.heap.size w)
      go_wp2_with fail
      refine (I_GroupValid _ c _ xs (rd_alloc (rd_alloc (rd_below HR.out T0.out) _) _) (by omega)).mono ?_
      rintro e w1 ⟨rfl, hb⟩
      have D1 : Below w.heap.size w w1 := below_trans (below_alloc _ _) (below_trans (below_alloc _ _) (hb))
      have T1 := Lib.hid (below_trans T0.out D1)
      have z1 : w.heap.size + 2 ≤ w1.heap.size := (by have := hb.size; (try simp at this); omega)
      have c_A0_1 := cell_b (p := ⟨w.heap.size, 0, none⟩) (v := .int .i64 c) (by simp) hb
      have c_A1_1 := cell_b (p := ⟨w.heap.size, 1, none⟩) (v := .slice a xs.length cap) (by simp) hb
      have c_R0_1 := cell_b (p := ⟨w.heap.size + 1, 0, none⟩) (v := .int .i64 0) (by simp) hb
      have f_R0_1 : w1.frozen? ⟨w.heap.size + 1, 0, none⟩ = false := (hb.frozen (p := ⟨w.heap.size + 1, 0, none⟩) (by simp; try omega)).trans (by simp)
      have c_R1_1 := cell_b (p := ⟨w.heap.size + 1, 1, none⟩) (v := .slice none 0 0) (by simp) hb
      have f_R1_1 : w1.frozen? ⟨w.heap.size + 1, 1, none⟩ = false := (hb.frozen (p := ⟨w.heap.size + 1, 1, none⟩) (by simp; try omega)).trans (by simp)
      have ac_A0_1 := fun o => cell_b c_A0_1 (below_alloc _ o)
      have bc_A0_1 := fun o o1 => cell_b (ac_A0_1 o) (below_alloc _ o1)
      have ac_A1_1 := fun o => cell_b c_A1_1 (below_alloc _ o)
      have bc_A1_1 := fun o o1 => cell_b (ac_A1_1 o) (below_alloc _ o1)
      have ac_R0_1 := fun o => cell_b c_R0_1 (below_alloc _ o)
      have bc_R0_1 := fun o o1 => cell_b (ac_R0_1 o) (below_alloc _ o1)
      have ac_R1_1 := fun o => cell_b c_R1_1 (below_alloc _ o)
      have bc_R1_1 := fun o o1 => cell_b (ac_R1_1 o) (below_alloc _ o1)
      have af_R0_1 := fun o => frz_b (cell_lt c_R0_1) f_R0_1 (below_alloc _ o)
      have bf_R0_1 := fun o o1 => frz_b (cell_lt (ac_R0_1 o)) (af_R0_1 o) (below_alloc _ o1)
      have af_R1_1 := fun o => frz_b (cell_lt c_R1_1) f_R1_1 (below_alloc _ o)
      have bf_R1_1 := fun o o1 => frz_b (cell_lt (ac_R1_1 o)) (af_R1_1 o) (below_alloc _ o1)
      clear hb D1 T0
      go_wp2_with fail
      refine bodyPost_ret (v := .tuple #[.agg #[.int .i64 0, .slice none 0 0], .slice none 0 0, .bool false]) (by simp [results, Try.results20, go_sem, c_R0_1, c_R1_1]) rfl ⟨_, _, _, _, rfl, ow_nil _ _, ow_nil _ _, ne_nil _ _ _, ((T1.out).setCell (by simp) _).setCell (by simp) _⟩
  · have hv' : gval c xs = false := by simpa using hv
    clear hv
    have e0 : addG c xs n = (0, [], [], false) := by simp [addG, hv']
    simp only [e0]
    clear e0
    go_enter Try.func20, Try.ntmps20
    have T0 := Lib.hid (Below.refl w.heap.size w)
    go_wp2_with fail
    refine (I_GroupValid _ c _ xs (rd_alloc (rd_alloc (rd_below HR.out T0.out) _) _) (by omega)).mono ?_
    rintro e w1 ⟨rfl, hb⟩
    have D1 : Below w.heap.size w w1 := below_trans (below_alloc _ _) (below_trans (below_alloc _ _) (hb))
    have T1 := Lib.hid (below_trans T0.out D1)
    have z1 : w.heap.size + 2 ≤ w1.heap.size := (by have := hb.size; (try simp at this); omega)
    have c_A0_1 := cell_b (p := ⟨w.heap.size, 0, none⟩) (v := .int .i64 c) (by simp) hb
    have c_A1_1 := cell_b (p := ⟨w.heap.size, 1, none⟩) (v := .slice a xs.length cap) (by simp) hb
    have c_R0_1 := cell_b (p := ⟨w.heap.size + 1, 0, none⟩) (v := .int .i64 0) (by simp) hb
    have f_R0_1 : w1.frozen? ⟨w.heap.size + 1, 0, none⟩ = false := (hb.frozen (p := ⟨w.heap.size + 1, 0, none⟩) (by simp; try omega)).trans (by simp)
    have c_R1_1 := cell_b (p := ⟨w.heap.size + 1, 1, none⟩) (v := .slice none 0 0) (by simp) hb
    have f_R1_1 : w1.frozen? ⟨w.heap.size + 1, 1, none⟩ = false := (hb.frozen (p := ⟨w.heap.size + 1, 1, none⟩) (by simp; try omega)).trans (by simp)
    have ac_A0_1 := fun o => cell_b c_A0_1 (below_alloc _ o)
    have bc_A0_1 := fun o o1 => cell_b (ac_A0_1 o) (below_alloc _ o1)
    have ac_A1_1 := fun o => cell_b c_A1_1 (below_alloc _ o)
    have bc_A1_1 := fun o o1 => cell_b (ac_A1_1 o) (below_alloc _ o1)
    have ac_R0_1 := fun o => cell_b c_R0_1 (below_alloc _ o)
    have bc_R0_1 := fun o o1 => cell_b (ac_R0_1 o) (below_alloc _ o1)
    have ac_R1_1 := fun o => cell_b c_R1_1 (below_alloc _ o)
    have bc_R1_1 := fun o o1 => cell_b (ac_R1_1 o) (below_alloc _ o1)
    have af_R0_1 := fun o => frz_b (cell_lt c_R0_1) f_R0_1 (below_alloc _ o)
    have bf_R0_1 := fun o o1 => frz_b (cell_lt (ac_R0_1 o)) (af_R0_1 o) (below_alloc _ o1)
    have af_R1_1 := fun o => frz_b (cell_lt c_R1_1) f_R1_1 (below_alloc _ o)
    have bf_R1_1 := fun o o1 => frz_b (cell_lt (ac_R1_1 o)) (af_R1_1 o) (below_alloc _ o1)
    clear hb D1 T0
    go_wp2_with fail
    refine bodyPost_ret (v := .tuple #[.agg #[.int .i64 0, .slice none 0 0], .slice none 0 0, .bool false]) (by simp [results, Try.results20, go_sem, c_R0_1, c_R1_1]) rfl ⟨_, _, _, _, rfl, ow_nil _ _, ow_nil _ _, ne_nil _ _ _, ((T1.out).setCell (by simp) _).setCell (by simp) _⟩

set_option maxHeartbeats 4000000 in
set_option maxRecDepth 100000 in
theorem S_AddGroup (w : World) (c : Int) (v : Value) (xs : List Int) (n : Int) (hr : Rd w v xs) (hl : xs.length ≤ 4294967296) :
    Calls Try.prog 22 #[.agg #[.int .i64 c, v], .int .i64 n] w fun e w' => ∃ a cap b cap', e = .returned (.tuple #[.agg #[.int .i64 (addG c xs n).1, .slice a (addG c xs n).2.1.length cap], .slice b (addG c xs n).2.2.1.length cap', .bool (addG c xs n).2.2.2]) ∧
      Ow w' w.heap.size (.slice a (addG c xs n).2.1.length cap) (addG c xs n).2.1 ∧ Ow w' w.heap.size (.slice b (addG c xs n).2.2.1.length cap') (addG c xs n).2.2.1 ∧
      NE (.slice a (addG c xs n).2.1.length cap) (.slice b (addG c xs n).2.2.1.length cap') ∧ Below w.heap.size w w' := by
  obtain ⟨i0, hi, hz0, hz1, hz2⟩ := info_parts info3
  have HR := Lib.hid hr
  obtain ⟨a, cap, rfl, hcap, hnc, hr⟩ := hr
  clear hr hnc
  by_cases hv : gval c xs = true
  · by_cases h1 : -99 ≤ n
    · by_cases h2 : n ≤ 99
      · by_cases hk : val (c + n) = true
        · by_cases hz : c + n = 0
          · have hk0 : val 0 = true := by simp [val]
            have g1 := (gval_in hv).1
            have g2 := (gval_in hv).2.1
            have e0 : addG c xs n = (0, [], xs, true) := by simp [addG, hv, h1, h2, hz, val]
            simp only [e0]
            clear e0
            go_enter Try.func22, Try.ntmps22
            have T0 := Lib.hid (Below.refl w.heap.size w)
            go_wp2_with fail
            refine (S_GroupValid _ c _ xs (rd_alloc (rd_alloc (rd_below HR.out T0.out) _) _) (by omega)).mono ?_
            rintro e w1 ⟨rfl, hb⟩
            have D1 : Below w.heap.size w w1 := below_trans (below_alloc _ _) (below_trans (below_alloc _ _) (hb))
            have T1 := Lib.hid (below_trans T0.out D1)
            have z1 : w.heap.size + 2 ≤ w1.heap.size := (by have := hb.size; (try simp at this); omega)
            have c_A0_1 := cell_b (p := ⟨w.heap.size, 0, none⟩) (v := .int .i64 c) (by simp) hb
            have c_A1_1 := cell_b (p := ⟨w.heap.size, 1, none⟩) (v := .slice a xs.length cap) (by simp) hb
            have c_R0_1 := cell_b (p := ⟨w.heap.size + 1, 0, none⟩) (v := .int .i64 0) (by simp) hb
            have f_R0_1 : w1.frozen? ⟨w.heap.size + 1, 0, none⟩ = false := (hb.frozen (p := ⟨w.heap.size + 1, 0, none⟩) (by simp; try omega)).trans (by simp)
            have c_R1_1 := cell_b (p := ⟨w.heap.size + 1, 1, none⟩) (v := .slice none 0 0) (by simp) hb
            have f_R1_1 : w1.frozen? ⟨w.heap.size + 1, 1, none⟩ = false := (hb.frozen (p := ⟨w.heap.size + 1, 1, none⟩) (by simp; try omega)).trans (by simp)
            have ac_A0_1 := fun o => cell_b c_A0_1 (below_alloc _ o)
            have bc_A0_1 := fun o o1 => cell_b (ac_A0_1 o) (below_alloc _ o1)
            have ac_A1_1 := fun o => cell_b c_A1_1 (below_alloc _ o)
            have bc_A1_1 := fun o o1 => cell_b (ac_A1_1 o) (below_alloc _ o1)
            have ac_R0_1 := fun o => cell_b c_R0_1 (below_alloc _ o)
            have bc_R0_1 := fun o o1 => cell_b (ac_R0_1 o) (below_alloc _ o1)
            have ac_R1_1 := fun o => cell_b c_R1_1 (below_alloc _ o)
            have bc_R1_1 := fun o o1 => cell_b (ac_R1_1 o) (below_alloc _ o1)
            have af_R0_1 := fun o => frz_b (cell_lt c_R0_1) f_R0_1 (below_alloc _ o)
            have bf_R0_1 := fun o o1 => frz_b (cell_lt (ac_R0_1 o)) (af_R0_1 o) (below_alloc _ o1)
            have af_R1_1 := fun o => frz_b (cell_lt c_R1_1) f_R1_1 (below_alloc _ o)
            have bf_R1_1 := fun o o1 => frz_b (cell_lt (ac_R1_1 o)) (af_R1_1 o) (below_alloc _ o1)
            clear hb D1 T0
            go_wp2_with fail
            refine (same_b (S_l2Value _ 0)).mono ?_
            rintro e w2 ⟨rfl, hb⟩
            have D2 : Below w1.heap.size w1 w2 := hb
            have c_A0_2 := cell_b c_A0_1 D2
            have c_A1_2 := cell_b c_A1_1 D2
            have c_R0_2 := cell_b c_R0_1 D2
            have c_R1_2 := cell_b c_R1_1 D2
            have f_R0_2 := (D2.frozen (p := ⟨w.heap.size + 1, 0, none⟩) (World.block_lt_of_cell? _ _ c_R0_1)).trans f_R0_1
            have f_R1_2 := (D2.frozen (p := ⟨w.heap.size + 1, 1, none⟩) (World.block_lt_of_cell? _ _ c_R1_1)).trans f_R1_1
            have T2 := Lib.hid (below_trans T1.out D2)
            have z2 : w1.heap.size ≤ w2.heap.size := (by have := hb.size; (try simp at this); omega)
            have ac_A0_2 := fun o => cell_b c_A0_2 (below_alloc _ o)
            have bc_A0_2 := fun o o1 => cell_b (ac_A0_2 o) (below_alloc _ o1)
            have ac_A1_2 := fun o => cell_b c_A1_2 (below_alloc _ o)
            have bc_A1_2 := fun o o1 => cell_b (ac_A1_2 o) (below_alloc _ o1)
            have ac_R0_2 := fun o => cell_b c_R0_2 (below_alloc _ o)
            have bc_R0_2 := fun o o1 => cell_b (ac_R0_2 o) (below_alloc _ o1)
            have ac_R1_2 := fun o => cell_b c_R1_2 (below_alloc _ o)
            have bc_R1_2 := fun o o1 => cell_b (ac_R1_2 o) (below_alloc _ o1)
            have af_R0_2 := fun o => frz_b (cell_lt c_R0_2) f_R0_2 (below_alloc _ o)
            have bf_R0_2 := fun o o1 => frz_b (cell_lt (ac_R0_2 o)) (af_R0_2 o) (below_alloc _ o1)
            have af_R1_2 := fun o => frz_b (cell_lt c_R1_2) f_R1_2 (below_alloc _ o)
            have bf_R1_2 := fun o o1 => frz_b (cell_lt (ac_R1_2 o)) (af_R1_2 o) (below_alloc _ o1)
            clear ac_A0_1 bc_A0_1 ac_A1_1 bc_A1_1 ac_R0_1 bc_R0_1 ac_R1_1 bc_R1_1 af_R0_1 bf_R0_1 af_R1_1 bf_R1_1 c_A0_1 c_A1_1 c_R0_1 c_R1_1 f_R0_1 f_R1_1 hb D2 T1
            have tok3 : True := trivial
            go_wp2_with (first | (at_builtin; have _t := tok3; refine wpList_append_rd rfl _ _ 23 rfl (w2.heap.size) i0 Try.underlying23 hi hz0 hz1 hz2 (.slice (some ⟨w2.heap.size, 0, none⟩) 0 0) (0) ([]) rfl (World.ownsRow_made _ #[] 0 (by simp) (by unfold maxLen; omega) rfl) _ _ _ (xs) rfl (rd_alloc (rd_below HR.out T2.out) _) rfl (by unfold maxLen; omega) (by omega) (by simp; try omega) ?_; intro v3 w3 hown hgrow; clear tok3; have ho : w3.ownsRow (w2.heap.size) 3 1 v3 ((xs).length) (ints (xs)) := (by rw [Nat.zero_add, List.nil_append] at hown; exact hown); obtain ⟨a3, cap3, hv⟩ := own_shape ho; subst hv; have c_A0_3 := cell_gr (cell_b c_A0_2 (below_alloc _ _)) hgrow (fun g h => by simp only [Value.ownBlock, Option.some.injEq] at h; show w.heap.size ≠ g; omega); have c_A1_3 := cell_gr (cell_b c_A1_2 (below_alloc _ _)) hgrow (fun g h => by simp only [Value.ownBlock, Option.some.injEq] at h; show w.heap.size ≠ g; omega); have c_R0_3 := cell_gr (cell_b c_R0_2 (below_alloc _ _)) hgrow (fun g h => by simp only [Value.ownBlock, Option.some.injEq] at h; show w.heap.size + 1 ≠ g; omega); have c_R1_3 := cell_gr (cell_b c_R1_2 (below_alloc _ _)) hgrow (fun g h => by simp only [Value.ownBlock, Option.some.injEq] at h; show w.heap.size + 1 ≠ g; omega); have f_R0_3 := (frz_gr (p := ⟨w.heap.size + 1, 0, none⟩) (cell_lt (cell_b c_R0_2 (below_alloc _ _))) hgrow (fun g h => by simp only [Value.ownBlock, Option.some.injEq] at h; show w.heap.size + 1 ≠ g; omega)).trans (frz_b (cell_lt c_R0_2) f_R0_2 (below_alloc _ _)); have f_R1_3 := (frz_gr (p := ⟨w.heap.size + 1, 1, none⟩) (cell_lt (cell_b c_R1_2 (below_alloc _ _))) hgrow (fun g h => by simp only [Value.ownBlock, Option.some.injEq] at h; show w.heap.size + 1 ≠ g; omega)).trans (frz_b (cell_lt c_R1_2) f_R1_2 (below_alloc _ _)); have z3 : w2.heap.size + 1 ≤ w3.heap.size := (by have := hgrow.size; (try simp at this); omega); have T3 := Lib.hid (below_gr (T2.out.trans ((below_alloc _ _ : Below w2.heap.size w2 _).mono T2.out.size)) (by have := T2.out.size; simp; try omega) hgrow (fun g h => by have h9 := T2.out.size; simp only [Value.ownBlock, Option.some.injEq] at h; omega)); have o_d_3 := Lib.hid ho; have lo_d := Lib.hid (own_lo o_d_3.out); have hi_d := Lib.hid (own_hi o_d_3.out); have ac_A0_3 := fun o => cell_b c_A0_3 (below_alloc _ o); have bc_A0_3 := fun o o1 => cell_b (ac_A0_3 o) (below_alloc _ o1); have ac_A1_3 := fun o => cell_b c_A1_3 (below_alloc _ o); have bc_A1_3 := fun o o1 => cell_b (ac_A1_3 o) (below_alloc _ o1); have ac_R0_3 := fun o => cell_b c_R0_3 (below_alloc _ o); have bc_R0_3 := fun o o1 => cell_b (ac_R0_3 o) (below_alloc _ o1); have ac_R1_3 := fun o => cell_b c_R1_3 (below_alloc _ o); have bc_R1_3 := fun o o1 => cell_b (ac_R1_3 o) (below_alloc _ o1); have af_R0_3 := fun o => frz_b (cell_lt c_R0_3) f_R0_3 (below_alloc _ o); have bf_R0_3 := fun o o1 => frz_b (cell_lt (ac_R0_3 o)) (af_R0_3 o) (below_alloc _ o1); have af_R1_3 := fun o => frz_b (cell_lt c_R1_3) f_R1_3 (below_alloc _ o); have bf_R1_3 := fun o o1 => frz_b (cell_lt (ac_R1_3 o)) (af_R1_3 o) (below_alloc _ o1); clear hown hgrow ho T2 ac_A0_2 bc_A0_2 ac_A1_2 bc_A1_2 ac_R0_2 bc_R0_2 ac_R1_2 bc_R1_2 af_R0_2 bf_R0_2 af_R1_2 bf_R1_2 c_A0_2 c_A1_2 c_R0_2 c_R1_2 f_R0_2 f_R1_2))
            go_wp2_with fail
            have O3 := o_d_3.out
            refine bodyPost_ret (v := .tuple #[.agg #[.int .i64 0, .slice none 0 0], .slice a3 xs.length cap3, .bool true]) (by simp [results, Try.results22, go_sem, c_R0_3, c_R1_3]) rfl ⟨_, _, _, _, rfl, ow_nil _ _, ?_, ne_nil _ _ _, ((T3.out).setCell (by simp) _).setCell (by simp) _⟩
            refine own_base (b := w2.heap.size) ?_ (by omega)
            repeat (first | exact O3 | refine ownsRow_setCell_below ?_ (by show _ + 1 < _; omega) _)
          · have hz' : ¬ c + n = 0 := by omega
            clear hz
            have hz := hz'
            have g1 := (gval_in hv).1
            have g2 := (gval_in hv).2.1
            have e0 : addG c xs n = (c + n, xs, [], true) := by simp [addG, hv, h1, h2, hk, hz]
            simp only [e0]
            clear e0
            go_enter Try.func22, Try.ntmps22
            have T0 := Lib.hid (Below.refl w.heap.size w)
            go_wp2_with fail
            refine (S_GroupValid _ c _ xs (rd_alloc (rd_alloc (rd_below HR.out T0.out) _) _) (by omega)).mono ?_
            rintro e w1 ⟨rfl, hb⟩
            have D1 : Below w.heap.size w w1 := below_trans (below_alloc _ _) (below_trans (below_alloc _ _) (hb))
            have T1 := Lib.hid (below_trans T0.out D1)
            have z1 : w.heap.size + 2 ≤ w1.heap.size := (by have := hb.size; (try simp at this); omega)
            have c_A0_1 := cell_b (p := ⟨w.heap.size, 0, none⟩) (v := .int .i64 c) (by simp) hb
            have c_A1_1 := cell_b (p := ⟨w.heap.size, 1, none⟩) (v := .slice a xs.length cap) (by simp) hb
            have c_R0_1 := cell_b (p := ⟨w.heap.size + 1, 0, none⟩) (v := .int .i64 0) (by simp) hb
            have f_R0_1 : w1.frozen? ⟨w.heap.size + 1, 0, none⟩ = false := (hb.frozen (p := ⟨w.heap.size + 1, 0, none⟩) (by simp; try omega)).trans (by simp)
            have c_R1_1 := cell_b (p := ⟨w.heap.size + 1, 1, none⟩) (v := .slice none 0 0) (by simp) hb
            have f_R1_1 : w1.frozen? ⟨w.heap.size + 1, 1, none⟩ = false := (hb.frozen (p := ⟨w.heap.size + 1, 1, none⟩) (by simp; try omega)).trans (by simp)
            have ac_A0_1 := fun o => cell_b c_A0_1 (below_alloc _ o)
            have bc_A0_1 := fun o o1 => cell_b (ac_A0_1 o) (below_alloc _ o1)
            have ac_A1_1 := fun o => cell_b c_A1_1 (below_alloc _ o)
            have bc_A1_1 := fun o o1 => cell_b (ac_A1_1 o) (below_alloc _ o1)
            have ac_R0_1 := fun o => cell_b c_R0_1 (below_alloc _ o)
            have bc_R0_1 := fun o o1 => cell_b (ac_R0_1 o) (below_alloc _ o1)
            have ac_R1_1 := fun o => cell_b c_R1_1 (below_alloc _ o)
            have bc_R1_1 := fun o o1 => cell_b (ac_R1_1 o) (below_alloc _ o1)
            have af_R0_1 := fun o => frz_b (cell_lt c_R0_1) f_R0_1 (below_alloc _ o)
            have bf_R0_1 := fun o o1 => frz_b (cell_lt (ac_R0_1 o)) (af_R0_1 o) (below_alloc _ o1)
            have af_R1_1 := fun o => frz_b (cell_lt c_R1_1) f_R1_1 (below_alloc _ o)
            have bf_R1_1 := fun o o1 => frz_b (cell_lt (ac_R1_1 o)) (af_R1_1 o) (below_alloc _ o1)
            clear hb D1 T0
            go_wp2_with fail
            refine (same_b (S_l2Value _ (c + n))).mono ?_
            rintro e w2 ⟨rfl, hb⟩
            have D2 : Below w1.heap.size w1 w2 := hb
            have c_A0_2 := cell_b c_A0_1 D2
            have c_A1_2 := cell_b c_A1_1 D2
            have c_R0_2 := cell_b c_R0_1 D2
            have c_R1_2 := cell_b c_R1_1 D2
            have f_R0_2 := (D2.frozen (p := ⟨w.heap.size + 1, 0, none⟩) (World.block_lt_of_cell? _ _ c_R0_1)).trans f_R0_1
            have f_R1_2 := (D2.frozen (p := ⟨w.heap.size + 1, 1, none⟩) (World.block_lt_of_cell? _ _ c_R1_1)).trans f_R1_1
            have T2 := Lib.hid (below_trans T1.out D2)
            have z2 : w1.heap.size ≤ w2.heap.size := (by have := hb.size; (try simp at this); omega)
            have ac_A0_2 := fun o => cell_b c_A0_2 (below_alloc _ o)
            have bc_A0_2 := fun o o1 => cell_b (ac_A0_2 o) (below_alloc _ o1)
            have ac_A1_2 := fun o => cell_b c_A1_2 (below_alloc _ o)
            have bc_A1_2 := fun o o1 => cell_b (ac_A1_2 o) (below_alloc _ o1)
            have ac_R0_2 := fun o => cell_b c_R0_2 (below_alloc _ o)
            have bc_R0_2 := fun o o1 => cell_b (ac_R0_2 o) (below_alloc _ o1)
            have ac_R1_2 := fun o => cell_b c_R1_2 (below_alloc _ o)
            have bc_R1_2 := fun o o1 => cell_b (ac_R1_2 o) (below_alloc _ o1)
            have af_R0_2 := fun o => frz_b (cell_lt c_R0_2) f_R0_2 (below_alloc _ o)
            have bf_R0_2 := fun o o1 => frz_b (cell_lt (ac_R0_2 o)) (af_R0_2 o) (below_alloc _ o1)
            have af_R1_2 := fun o => frz_b (cell_lt c_R1_2) f_R1_2 (below_alloc _ o)
            have bf_R1_2 := fun o o1 => frz_b (cell_lt (ac_R1_2 o)) (af_R1_2 o) (below_alloc _ o1)
            clear ac_A0_1 bc_A0_1 ac_A1_1 bc_A1_1 ac_R0_1 bc_R0_1 ac_R1_1 bc_R1_1 af_R0_1 bf_R0_1 af_R1_1 bf_R1_1 c_A0_1 c_A1_1 c_R0_1 c_R1_1 f_R0_1 f_R1_1 hb D2 T1
            have tok3 : True := trivial
            go_wp2_with (first | (at_builtin; have _t := tok3; refine wpList_append_rd rfl _ _ 23 rfl (w2.heap.size) i0 Try.underlying23 hi hz0 hz1 hz2 (.slice (some ⟨w2.heap.size, 0, none⟩) 0 0) (0) ([]) rfl (World.ownsRow_made _ #[] 0 (by simp) (by unfold maxLen; omega) rfl) _ _ _ (xs) rfl (rd_alloc (rd_below HR.out T2.out) _) rfl (by unfold maxLen; omega) (by omega) (by simp; try omega) ?_; intro v3 w3 hown hgrow; clear tok3; have ho : w3.ownsRow (w2.heap.size) 3 1 v3 ((xs).length) (ints (xs)) := (by rw [Nat.zero_add, List.nil_append] at hown; exact hown); obtain ⟨a3, cap3, hv⟩ := own_shape ho; subst hv; have c_A0_3 := cell_gr (cell_b c_A0_2 (below_alloc _ _)) hgrow (fun g h => by simp only [Value.ownBlock, Option.some.injEq] at h; show w.heap.size ≠ g; omega); have c_A1_3 := cell_gr (cell_b c_A1_2 (below_alloc _ _)) hgrow (fun g h => by simp only [Value.ownBlock, Option.some.injEq] at h; show w.heap.size ≠ g; omega); have c_R0_3 := cell_gr (cell_b c_R0_2 (below_alloc _ _)) hgrow (fun g h => by simp only [Value.ownBlock, Option.some.injEq] at h; show w.heap.size + 1 ≠ g; omega); have c_R1_3 := cell_gr (cell_b c_R1_2 (below_alloc _ _)) hgrow (fun g h => by simp only [Value.ownBlock, Option.some.injEq] at h; show w.heap.size + 1 ≠ g; omega); have f_R0_3 := (frz_gr (p := ⟨w.heap.size + 1, 0, none⟩) (cell_lt (cell_b c_R0_2 (below_alloc _ _))) hgrow (fun g h => by simp only [Value.ownBlock, Option.some.injEq] at h; show w.heap.size + 1 ≠ g; omega)).trans (frz_b (cell_lt c_R0_2) f_R0_2 (below_alloc _ _)); have f_R1_3 := (frz_gr (p := ⟨w.heap.size + 1, 1, none⟩) (cell_lt (cell_b c_R1_2 (below_alloc _ _))) hgrow (fun g h => by simp only [Value.ownBlock, Option.some.injEq] at h; show w.heap.size + 1 ≠ g; omega)).trans (frz_b (cell_lt c_R1_2) f_R1_2 (below_alloc _ _)); have z3 : w2.heap.size + 1 ≤ w3.heap.size := (by have := hgrow.size; (try simp at this); omega); have T3 := Lib.hid (below_gr (T2.out.trans ((below_alloc _ _ : Below w2.heap.size w2 _).mono T2.out.size)) (by have := T2.out.size; simp; try omega) hgrow (fun g h => by have h9 := T2.out.size; simp only [Value.ownBlock, Option.some.injEq] at h; omega)); have o_d_3 := Lib.hid ho; have lo_d := Lib.hid (own_lo o_d_3.out); have hi_d := Lib.hid (own_hi o_d_3.out); have ac_A0_3 := fun o => cell_b c_A0_3 (below_alloc _ o); have bc_A0_3 := fun o o1 => cell_b (ac_A0_3 o) (below_alloc _ o1); have ac_A1_3 := fun o => cell_b c_A1_3 (below_alloc _ o); have bc_A1_3 := fun o o1 => cell_b (ac_A1_3 o) (below_alloc _ o1); have ac_R0_3 := fun o => cell_b c_R0_3 (below_alloc _ o); have bc_R0_3 := fun o o1 => cell_b (ac_R0_3 o) (below_alloc _ o1); have ac_R1_3 := fun o => cell_b c_R1_3 (below_alloc _ o); have bc_R1_3 := fun o o1 => cell_b (ac_R1_3 o) (below_alloc _ o1); have af_R0_3 := fun o => frz_b (cell_lt c_R0_3) f_R0_3 (below_alloc _ o); have bf_R0_3 := fun o o1 => frz_b (cell_lt (ac_R0_3 o)) (af_R0_3 o) (below_alloc _ o1); have af_R1_3 := fun o => frz_b (cell_lt c_R1_3) f_R1_3 (below_alloc _ o); have bf_R1_3 := fun o o1 => frz_b (cell_lt (ac_R1_3 o)) (af_R1_3 o) (below_alloc _ o1); clear hown hgrow ho T2 ac_A0_2 bc_A0_2 ac_A1_2 bc_A1_2 ac_R0_2 bc_R0_2 ac_R1_2 bc_R1_2 af_R0_2 bf_R0_2 af_R1_2 bf_R1_2 c_A0_2 c_A1_2 c_R0_2 c_R1_2 f_R0_2 f_R1_2))
            go_wp2_with fail
            have O3 := o_d_3.out
            refine bodyPost_ret (v := .tuple #[.agg #[.int .i64 (c + n), .slice a3 xs.length cap3], .slice (some ⟨w3.heap.size, 0, none⟩) 0 0, .bool true]) (by simp [results, Try.results22, go_sem, ac_R0_3, ac_R1_3]) rfl ⟨_, _, _, _, rfl, ?_, ?_, ne_lt (b := w3.heap.size) (own_hi O3) (by intro g hg; simp [Value.ownBlock] at hg; omega), (((T3.out.alloc T3.out.size _)).setCell (by simp) _).setCell (by simp) _⟩
            · refine own_base (b := w2.heap.size) ?_ (by omega)
              repeat (first | exact (own_below O3 (below_alloc _ _)) | refine ownsRow_setCell_below ?_ (by show _ + 1 < _; omega) _)
            · refine own_base (b := w3.heap.size) ?_ (by omega)
              repeat (first | exact (ow_made w3 _ (Nat.le_refl _)) | refine ownsRow_setCell_below ?_ (by show _ + 1 < _; omega) _)
        · have hk' : val (c + n) = false := by simpa using hk
          clear hk
          have g1 := (gval_in hv).1
          have g2 := (gval_in hv).2.1
          have e0 : addG c xs n = (0, [], [], false) := by simp [addG, hv, h1, h2, hk']
          simp only [e0]
          clear e0
          go_enter Try.func22, Try.ntmps22
          have T0 := Lib.hid (Below.refl w.heap.size w)
          go_wp2_with fail
          refine (S_GroupValid _ c _ xs (rd_alloc (rd_alloc (rd_below HR.out T0.out) _) _) (by omega)).mono ?_
          rintro e w1 ⟨rfl, hb⟩
          have D1 : Below w.heap.size w w1 := below_trans (below_alloc _ _) (below_trans (below_alloc _ _) (hb))
          have T1 := Lib.hid (below_trans T0.out D1)
          have z1 : w.heap.size + 2 ≤ w1.heap.size := (by have := hb.size; (try simp at this); omega)
          have c_A0_1 := cell_b (p := ⟨w.heap.size, 0, none⟩) (v := .int .i64 c) (by simp) hb
          have c_A1_1 := cell_b (p := ⟨w.heap.size, 1, none⟩) (v := .slice a xs.length cap) (by simp) hb
          have c_R0_1 := cell_b (p := ⟨w.heap.size + 1, 0, none⟩) (v := .int .i64 0) (by simp) hb
          have f_R0_1 : w1.frozen? ⟨w.heap.size + 1, 0, none⟩ = false := (hb.frozen (p := ⟨w.heap.size + 1, 0, none⟩) (by simp; try omega)).trans (by simp)
          have c_R1_1 := cell_b (p := ⟨w.heap.size + 1, 1, none⟩) (v := .slice none 0 0) (by simp) hb
          have f_R1_1 : w1.frozen? ⟨w.heap.size + 1, 1, none⟩ = false := (hb.frozen (p := ⟨w.heap.size + 1, 1, none⟩) (by simp; try omega)).trans (by simp)
          have ac_A0_1 := fun o => cell_b c_A0_1 (below_alloc _ o)
          have bc_A0_1 := fun o o1 => cell_b (ac_A0_1 o) (below_alloc _ o1)
          have ac_A1_1 := fun o => cell_b c_A1_1 (below_alloc _ o)
          have bc_A1_1 := fun o o1 => cell_b (ac_A1_1 o) (below_alloc _ o1)
          have ac_R0_1 := fun o => cell_b c_R0_1 (below_alloc _ o)
          have bc_R0_1 := fun o o1 => cell_b (ac_R0_1 o) (below_alloc _ o1)
          have ac_R1_1 := fun o => cell_b c_R1_1 (below_alloc _ o)
          have bc_R1_1 := fun o o1 => cell_b (ac_R1_1 o) (below_alloc _ o1)
          have af_R0_1 := fun o => frz_b (cell_lt c_R0_1) f_R0_1 (below_alloc _ o)
          have bf_R0_1 := fun o o1 => frz_b (cell_lt (ac_R0_1 o)) (af_R0_1 o) (below_alloc _ o1)
          have af_R1_1 := fun o => frz_b (cell_lt c_R1_1) f_R1_1 (below_alloc _ o)
          have bf_R1_1 := fun o o1 => frz_b (cell_lt (ac_R1_1 o)) (af_R1_1 o) (below_alloc _ o1)
          clear hb D1 T0
          go_wp2_with fail
          refine (same_b (S_l2Value _ (c + n))).mono ?_
          rintro e w2 ⟨rfl, hb⟩
          have D2 : Below w1.heap.size w1 w2 := hb
          have c_A0_2 := cell_b c_A0_1 D2
          have c_A1_2 := cell_b c_A1_1 D2
          have c_R0_2 := cell_b c_R0_1 D2
          have c_R1_2 := cell_b c_R1_1 D2
          have f_R0_2 := (D2.frozen (p := ⟨w.heap.size + 1, 0, none⟩) (World.block_lt_of_cell? _ _ c_R0_1)).trans f_R0_1
          have f_R1_2 := (D2.frozen (p := ⟨w.heap.size + 1, 1, none⟩) (World.block_lt_of_cell? _ _ c_R1_1)).trans f_R1_1
          have T2 := Lib.hid (below_trans T1.out D2)
          have z2 : w1.heap.size ≤ w2.heap.size := (by have := hb.size; (try simp at this); omega)
          have ac_A0_2 := fun o => cell_b c_A0_2 (below_alloc _ o)
          have bc_A0_2 := fun o o1 => cell_b (ac_A0_2 o) (below_alloc _ o1)
          have ac_A1_2 := fun o => cell_b c_A1_2 (below_alloc _ o)
          have bc_A1_2 := fun o o1 => cell_b (ac_A1_2 o) (below_alloc _ o1)
          have ac_R0_2 := fun o => cell_b c_R0_2 (below_alloc _ o)
          have bc_R0_2 := fun o o1 => cell_b (ac_R0_2 o) (below_alloc _ o1)
          have ac_R1_2 := fun o => cell_b c_R1_2 (below_alloc _ o)
          have bc_R1_2 := fun o o1 => cell_b (ac_R1_2 o) (below_alloc _ o1)
          have af_R0_2 := fun o => frz_b (cell_lt c_R0_2) f_R0_2 (below_alloc _ o)
          have bf_R0_2 := fun o o1 => frz_b (cell_lt (ac_R0_2 o)) (af_R0_2 o) (below_alloc _ o1)
          have af_R1_2 := fun o => frz_b (cell_lt c_R1_2) f_R1_2 (below_alloc _ o)
          have bf_R1_2 := fun o o1 => frz_b (cell_lt (ac_R1_2 o)) (af_R1_2 o) (below_alloc _ o1)
          clear ac_A0_1 bc_A0_1 ac_A1_1 bc_A1_1 ac_R0_1 bc_R0_1 ac_R1_1 bc_R1_1 af_R0_1 bf_R0_1 af_R1_1 bf_R1_1 c_A0_1 c_A1_1 c_R0_1 c_R1_1 f_R0_1 f_R1_1 hb D2 T1
          go_wp2_with fail
          refine bodyPost_ret (v := .tuple #[.agg #[.int .i64 0, .slice none 0 0], .slice (some ⟨w2.heap.size, 0, none⟩) 0 0, .bool false]) (by simp [results, Try.results22, go_sem, ac_R0_2, ac_R1_2]) rfl ⟨_, _, _, _, rfl, ow_nil _ _, ?_, ne_nil _ _ _, (((T2.out.alloc T2.out.size _)).setCell (by simp) _).setCell (by simp) _⟩
          refine own_base (b := w2.heap.size) ?_ (by omega)
          repeat (first | exact (ow_made w2 _ (Nat.le_refl _)) | refine ownsRow_setCell_below ?_ (by show _ + 1 < _; omega) _)
      · have h2' : 99 < n := by omega
        clear h2
        have e0 : addG c xs n = (0, [], [], false) := by simp [addG, show ¬ n ≤ 99 by omega]
        simp only [e0]
        clear e0
        go_enter Try.func22, Try.ntmps22
        have T0 := Lib.hid (Below.refl w.heap.size w)
        go_wp2_with fail
        refine (S_GroupValid _ c _ xs (rd_alloc (rd_alloc (rd_below HR.out T0.out) _) _) (by omega)).mono ?_
        rintro e w1 ⟨rfl, hb⟩
        have D1 : Below w.heap.size w w1 := below_trans (below_alloc _ _) (below_trans (below_alloc _ _) (hb))
        have T1 := Lib.hid (below_trans T0.out D1)
        have z1 : w.heap.size + 2 ≤ w1.heap.size := (by have := hb.size; (try simp at this); omega)
        have c_A0_1 := cell_b (p := ⟨w.heap.size, 0, none⟩) (v := .int .i64 c) (by simp) hb
        have c_A1_1 := cell_b (p := ⟨w.heap.size, 1, none⟩) (v := .slice a xs.length cap) (by simp) hb
        have c_R0_1 := cell_b (p := ⟨w.heap.size + 1, 0, none⟩) (v := .int .i64 0) (by simp) hb
        have f_R0_1 : w1.frozen? ⟨w.heap.size + 1, 0, none⟩ = false := (hb.frozen (p := ⟨w.heap.size + 1, 0, none⟩) (by simp; try omega)).trans (by simp)
        have c_R1_1 := cell_b (p := ⟨w.heap.size + 1, 1, none⟩) (v := .slice none 0 0) (by simp) hb
        have f_R1_1 : w1.frozen? ⟨w.heap.size + 1, 1, none⟩ = false := (hb.frozen (p := ⟨w.heap.size + 1, 1, none⟩) (by simp; try omega)).trans (by simp)
        have ac_A0_1 := fun o => cell_b c_A0_1 (below_alloc _ o)
        have bc_A0_1 := fun o o1 => cell_b (ac_A0_1 o) (below_alloc _ o1)
        have ac_A1_1 := fun o => cell_b c_A1_1 (below_alloc _ o)
        have bc_A1_1 := fun o o1 => cell_b (ac_A1_1 o) (below_alloc _ o1)
        have ac_R0_1 := fun o => cell_b c_R0_1 (below_alloc _ o)
        have bc_R0_1 := fun o o1 => cell_b (ac_R0_1 o) (below_alloc _ o1)
        have ac_R1_1 := fun o => cell_b c_R1_1 (below_alloc _ o)
        have bc_R1_1 := fun o o1 => cell_b (ac_R1_1 o) (below_alloc _ o1)
        have af_R0_1 := fun o => frz_b (cell_lt c_R0_1) f_R0_1 (below_alloc _ o)
        have bf_R0_1 := fun o o1 => frz_b (cell_lt (ac_R0_1 o)) (af_R0_1 o) (below_alloc _ o1)
        have af_R1_1 := fun o => frz_b (cell_lt c_R1_1) f_R1_1 (below_alloc _ o)
        have bf_R1_1 := fun o o1 => frz_b (cell_lt (ac_R1_1 o)) (af_R1_1 o) (below_alloc _ o1)
        clear hb D1 T0
        go_wp2_with fail
        refine bodyPost_ret (v := .tuple #[.agg #[.int .i64 0, .slice none 0 0], .slice (some ⟨w1.heap.size, 0, none⟩) 0 0, .bool false]) (by simp [results, Try.results22, go_sem, ac_R0_1, ac_R1_1]) rfl ⟨_, _, _, _, rfl, ow_nil _ _, ?_, ne_nil _ _ _, (((T1.out.alloc T1.out.size _)).setCell (by simp) _).setCell (by simp) _⟩
        refine own_base (b := w1.heap.size) ?_ (by omega)
        repeat (first | exact (ow_made w1 _ (Nat.le_refl _)) | refine ownsRow_setCell_below ?_ (by show _ + 1 < _; omega) _)
    · have h1' : n < -99 := by omega
      clear h1
      have e0 : addG c xs n = (0, [], [], false) := by simp [addG, show ¬ -99 ≤ n by omega]
      simp only [e0]
      clear e0
      go_enter Try.func22, Try.ntmps22
      have T0 := Lib.hid (Below.refl w.heap.size w)
      go_wp2_with fail
      refine (S_GroupValid _ c _ xs (rd_alloc (rd_alloc (rd_below HR.out T0.out) _) _) (by omega)).mono ?_
      rintro e w1 ⟨rfl, hb⟩
      have D1 : Below w.heap.size w w1 := below_trans (below_alloc _ _) (below_trans (below_alloc _ _) (hb))
      have T1 := Lib.hid (below_trans T0.out D1)
      have z1 : w.heap.size + 2 ≤ w1.heap.size := (by have := hb.size; (try simp at this); omega)
      have c_A0_1 := cell_b (p := ⟨w.heap.size, 0, none⟩) (v := .int .i64 c) (by simp) hb
      have c_A1_1 := cell_b (p := ⟨w.heap.size, 1, none⟩) (v := .slice a xs.length cap) (by simp) hb
      have c_R0_1 := cell_b (p := ⟨w.heap.size + 1, 0, none⟩) (v := .int .i64 0) (by simp) hb
      have f_R0_1 : w1.frozen? ⟨w.heap.size + 1, 0, none⟩ = false := (hb.frozen (p := ⟨w.heap.size + 1, 0, none⟩) (by simp; try omega)).trans (by simp)
      have c_R1_1 := cell_b (p := ⟨w.heap.size + 1, 1, none⟩) (v := .slice none 0 0) (by simp) hb
      have f_R1_1 : w1.frozen? ⟨w.heap.size + 1, 1, none⟩ = false := (hb.frozen (p := ⟨w.heap.size + 1, 1, none⟩) (by simp; try omega)).trans (by simp)
      have ac_A0_1 := fun o => cell_b c_A0_1 (below_alloc _ o)
      have bc_A0_1 := fun o o1 => cell_b (ac_A0_1 o) (below_alloc _ o1)
      have ac_A1_1 := fun o => cell_b c_A1_1 (below_alloc _ o)
      have bc_A1_1 := fun o o1 => cell_b (ac_A1_1 o) (below_alloc _ o1)
      have ac_R0_1 := fun o => cell_b c_R0_1 (below_alloc _ o)
      have bc_R0_1 := fun o o1 => cell_b (ac_R0_1 o) (below_alloc _ o1)
      have ac_R1_1 := fun o => cell_b c_R1_1 (below_alloc _ o)
      have bc_R1_1 := fun o o1 => cell_b (ac_R1_1 o) (below_alloc _ o1)
      have af_R0_1 := fun o => frz_b (cell_lt c_R0_1) f_R0_1 (below_alloc _ o)
      have bf_R0_1 := fun o o1 => frz_b (cell_lt (ac_R0_1 o)) (af_R0_1 o) (below_alloc _ o1)
      have af_R1_1 := fun o => frz_b (cell_lt c_R1_1) f_R1_1 (below_alloc _ o)
      have bf_R1_1 := fun o o1 => frz_b (cell_lt (ac_R1_1 o)) (af_R1_1 o) (below_alloc _ o1)
      clear hb D1 T0
      go_wp2_with fail
      refine bodyPost_ret (v := .tuple #[.agg #[.int .i64 0, .slice none 0 0], .slice (some ⟨w1.heap.size, 0, none⟩) 0 0, .bool false]) (by simp [results, Try.results22, go_sem, ac_R0_1, ac_R1_1]) rfl ⟨_, _, _, _, rfl, ow_nil _ _, ?_, ne_nil _ _ _, (((T1.out.alloc T1.out.size _)).setCell (by simp) _).setCell (by simp) _⟩
      refine own_base (b := w1.heap.size) ?_ (by omega)
      repeat (first | exact (ow_made w1 _ (Nat.le_refl _)) | refine ownsRow_setCell_below ?_ (by show _ + 1 < _; omega) _)
  · have hv' : gval c xs = false := by simpa using hv
    clear hv
    have e0 : addG c xs n = (0, [], [], false) := by simp [addG, hv']
    simp only [e0]
    clear e0
    go_enter Try.func22, Try.ntmps22
    have T0 := Lib.hid (Below.refl w.heap.size w)
    go_wp2_with fail
    refine (S_GroupValid _ c _ xs (rd_alloc (rd_alloc (rd_below HR.out T0.out) _) _) (by omega)).mono ?_
    rintro e w1 ⟨rfl, hb⟩
    have D1 : Below w.heap.size w w1 := below_trans (below_alloc _ _) (below_trans (below_alloc _ _) (hb))
    have T1 := Lib.hid (below_trans T0.out D1)
    have z1 : w.heap.size + 2 ≤ w1.heap.size := (by have := hb.size; (try simp at this); omega)
    have c_A0_1 := cell_b (p := ⟨w.heap.size, 0, none⟩) (v := .int .i64 c) (by simp) hb
    have c_A1_1 := cell_b (p := ⟨w.heap.size, 1, none⟩) (v := .slice a xs.length cap) (by simp) hb
    have c_R0_1 := cell_b (p := ⟨w.heap.size + 1, 0, none⟩) (v := .int .i64 0) (by simp) hb
    have f_R0_1 : w1.frozen? ⟨w.heap.size + 1, 0, none⟩ = false := (hb.frozen (p := ⟨w.heap.size + 1, 0, none⟩) (by simp; try omega)).trans (by simp)
    have c_R1_1 := cell_b (p := ⟨w.heap.size + 1, 1, none⟩) (v := .slice none 0 0) (by simp) hb
    have f_R1_1 : w1.frozen? ⟨w.heap.size + 1, 1, none⟩ = false := (hb.frozen (p := ⟨w.heap.size + 1, 1, none⟩) (by simp; try omega)).trans (by simp)
    have ac_A0_1 := fun o => cell_b c_A0_1 (below_alloc _ o)
    have bc_A0_1 := fun o o1 => cell_b (ac_A0_1 o) (below_alloc _ o1)
    have ac_A1_1 := fun o => cell_b c_A1_1 (below_alloc _ o)
    have bc_A1_1 := fun o o1 => cell_b (ac_A1_1 o) (below_alloc _ o1)
    have ac_R0_1 := fun o => cell_b c_R0_1 (below_alloc _ o)
    have bc_R0_1 := fun o o1 => cell_b (ac_R0_1 o) (below_alloc _ o1)
    have ac_R1_1 := fun o => cell_b c_R1_1 (below_alloc _ o)
    have bc_R1_1 := fun o o1 => cell_b (ac_R1_1 o) (below_alloc _ o1)
    have af_R0_1 := fun o => frz_b (cell_lt c_R0_1) f_R0_1 (below_alloc _ o)
    have bf_R0_1 := fun o o1 => frz_b (cell_lt (ac_R0_1 o)) (af_R0_1 o) (below_alloc _ o1)
    have af_R1_1 := fun o => frz_b (cell_lt c_R1_1) f_R1_1 (below_alloc _ o)
    have bf_R1_1 := fun o o1 => frz_b (cell_lt (ac_R1_1 o)) (af_R1_1 o) (below_alloc _ o1)
    clear hb D1 T0
    go_wp2_with fail
    refine bodyPost_ret (v := .tuple #[.agg #[.int .i64 0, .slice none 0 0], .slice (some ⟨w1.heap.size, 0, none⟩) 0 0, .bool false]) (by simp [results, Try.results22, go_sem, ac_R0_1, ac_R1_1]) rfl ⟨_, _, _, _, rfl, ow_nil _ _, ?_, ne_nil _ _ _, (((T1.out.alloc T1.out.size _)).setCell (by simp) _).setCell (by simp) _⟩
    refine own_base (b := w1.heap.size) ?_ (by omega)
    repeat (first | exact (ow_made w1 _ (Nat.le_refl _)) | refine ownsRow_setCell_below ?_ (by show _ + 1 < _; omega) _)
end Go.Proofs.Ytgdhbhgkfcgjdaa
