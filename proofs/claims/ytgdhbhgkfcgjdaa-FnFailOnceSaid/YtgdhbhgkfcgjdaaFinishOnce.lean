/- Contracts of FinishOnce. -/
import Derived.Test.YtgdhbhgkfcgjdaaRuns
namespace Go.Proofs.Ytgdhbhgkfcgjdaa
open Go.RowKit
/-- What FinishOnce hands back: state, owner, value, who is told, ok. -/
def fin (s o k : Int) (xs : List Int) (t z : Int) : Int × Int × Int × List Int × Bool :=
  if (runs s o k xs t && val z) = true then (2, t, z, xs, true) else (0, 0, 0, [], false)
theorem fin_len (s o k : Int) (xs : List Int) (t z : Int) : (fin s o k xs t z).2.2.2.1.length ≤ xs.length := by unfold fin; split <;> simp

set_option maxHeartbeats 4000000 in
set_option maxRecDepth 100000 in
theorem I_FinishOnce (w : World) (s o k : Int) (v : Value) (xs : List Int) (t z : Int) (hr : Rd w v xs) (hl : xs.length ≤ 4294967296) :
    Calls Try.prog 32 #[.agg #[.int .i64 s, .int .i64 o, .int .i64 k, v], .int .i64 t, .int .i64 z] w fun e w' => ∃ a cap b cap', e = .returned (.tuple #[.agg #[.int .i64 (fin s o k xs t z).1, .int .i64 (fin s o k xs t z).2.1, .int .i64 (fin s o k xs t z).2.2.1, .slice a ([] : List Int).length cap], .slice b (fin s o k xs t z).2.2.2.1.length cap', .bool (fin s o k xs t z).2.2.2.2]) ∧
      Ow w' w.heap.size (.slice a ([] : List Int).length cap) [] ∧ Ow w' w.heap.size (.slice b (fin s o k xs t z).2.2.2.1.length cap') (fin s o k xs t z).2.2.2.1 ∧
      NE (.slice a ([] : List Int).length cap) (.slice b (fin s o k xs t z).2.2.2.1.length cap') ∧ Below w.heap.size w w' := by
  obtain ⟨i0, hi, hz0, hz1, hz2⟩ := info_parts info3
  have HR := Lib.hid hr
  obtain ⟨a, cap, rfl, hcap, hnc, hr⟩ := hr
  clear hr hnc
  by_cases hv : oval s o k xs = true
  · by_cases h1 : s = 1
    · subst h1
      by_cases ho : o = t
      · subst ho
        by_cases hk : val z = true
        · have e0 : fin 1 o k xs o z = (2, o, z, xs, true) := by simp [fin, runs, hv, hk]
          simp only [e0]
          clear e0
          go_enter Try.func32, Try.ntmps32
          have T0 := Lib.hid (Below.refl w.heap.size w)
          go_wp2_with fail
          refine (I_OnceValid _ 1 o k _ xs (rd_alloc (rd_alloc (rd_below HR.out T0.out) _) _) (by omega)).mono ?_
          rintro e w1 ⟨rfl, hb⟩
          have D1 : Below w.heap.size w w1 := below_trans (below_alloc _ _) (below_trans (below_alloc _ _) (hb))
          have T1 := Lib.hid (below_trans T0.out D1)
          have z1 : w.heap.size + 2 ≤ w1.heap.size := (by have := hb.size; (try simp at this); omega)
          have c_A0_1 := cell_b (p := ⟨w.heap.size, 0, none⟩) (v := .int .i64 1) (by simp) hb
          have c_A1_1 := cell_b (p := ⟨w.heap.size, 1, none⟩) (v := .int .i64 o) (by simp) hb
          have c_A2_1 := cell_b (p := ⟨w.heap.size, 2, none⟩) (v := .int .i64 k) (by simp) hb
          have c_A3_1 := cell_b (p := ⟨w.heap.size, 3, none⟩) (v := .slice a xs.length cap) (by simp) hb
          have c_R0_1 := cell_b (p := ⟨w.heap.size + 1, 0, none⟩) (v := .int .i64 0) (by simp) hb
          have f_R0_1 : w1.frozen? ⟨w.heap.size + 1, 0, none⟩ = false := (hb.frozen (p := ⟨w.heap.size + 1, 0, none⟩) (by simp; try omega)).trans (by simp)
          have c_R1_1 := cell_b (p := ⟨w.heap.size + 1, 1, none⟩) (v := .int .i64 0) (by simp) hb
          have f_R1_1 : w1.frozen? ⟨w.heap.size + 1, 1, none⟩ = false := (hb.frozen (p := ⟨w.heap.size + 1, 1, none⟩) (by simp; try omega)).trans (by simp)
          have c_R2_1 := cell_b (p := ⟨w.heap.size + 1, 2, none⟩) (v := .int .i64 0) (by simp) hb
          have f_R2_1 : w1.frozen? ⟨w.heap.size + 1, 2, none⟩ = false := (hb.frozen (p := ⟨w.heap.size + 1, 2, none⟩) (by simp; try omega)).trans (by simp)
          have c_R3_1 := cell_b (p := ⟨w.heap.size + 1, 3, none⟩) (v := .slice none 0 0) (by simp) hb
          have f_R3_1 : w1.frozen? ⟨w.heap.size + 1, 3, none⟩ = false := (hb.frozen (p := ⟨w.heap.size + 1, 3, none⟩) (by simp; try omega)).trans (by simp)
          have ac_A0_1 := fun o => cell_b c_A0_1 (below_alloc _ o)
          have ac_A1_1 := fun o => cell_b c_A1_1 (below_alloc _ o)
          have ac_A2_1 := fun o => cell_b c_A2_1 (below_alloc _ o)
          have ac_A3_1 := fun o => cell_b c_A3_1 (below_alloc _ o)
          have ac_R0_1 := fun o => cell_b c_R0_1 (below_alloc _ o)
          have ac_R1_1 := fun o => cell_b c_R1_1 (below_alloc _ o)
          have ac_R2_1 := fun o => cell_b c_R2_1 (below_alloc _ o)
          have ac_R3_1 := fun o => cell_b c_R3_1 (below_alloc _ o)
          have af_R0_1 := fun o => frz_b (cell_lt c_R0_1) f_R0_1 (below_alloc _ o)
          have af_R1_1 := fun o => frz_b (cell_lt c_R1_1) f_R1_1 (below_alloc _ o)
          have af_R2_1 := fun o => frz_b (cell_lt c_R2_1) f_R2_1 (below_alloc _ o)
          have af_R3_1 := fun o => frz_b (cell_lt c_R3_1) f_R3_1 (below_alloc _ o)
          clear hb D1 T0
          go_wp2_with fail
          refine (same_b (I_isValue _ z)).mono ?_
          rintro e w2 ⟨rfl, hb⟩
          have D2 : Below w1.heap.size w1 w2 := hb
          have c_A0_2 := cell_b c_A0_1 D2
          have c_A1_2 := cell_b c_A1_1 D2
          have c_A2_2 := cell_b c_A2_1 D2
          have c_A3_2 := cell_b c_A3_1 D2
          have c_R0_2 := cell_b c_R0_1 D2
          have c_R1_2 := cell_b c_R1_1 D2
          have c_R2_2 := cell_b c_R2_1 D2
          have c_R3_2 := cell_b c_R3_1 D2
          have f_R0_2 := (D2.frozen (p := ⟨w.heap.size + 1, 0, none⟩) (World.block_lt_of_cell? _ _ c_R0_1)).trans f_R0_1
          have f_R1_2 := (D2.frozen (p := ⟨w.heap.size + 1, 1, none⟩) (World.block_lt_of_cell? _ _ c_R1_1)).trans f_R1_1
          have f_R2_2 := (D2.frozen (p := ⟨w.heap.size + 1, 2, none⟩) (World.block_lt_of_cell? _ _ c_R2_1)).trans f_R2_1
          have f_R3_2 := (D2.frozen (p := ⟨w.heap.size + 1, 3, none⟩) (World.block_lt_of_cell? _ _ c_R3_1)).trans f_R3_1
          have T2 := Lib.hid (below_trans T1.out D2)
          have z2 : w1.heap.size ≤ w2.heap.size := (by have := hb.size; (try simp at this); omega)
          have ac_A0_2 := fun o => cell_b c_A0_2 (below_alloc _ o)
          have ac_A1_2 := fun o => cell_b c_A1_2 (below_alloc _ o)
          have ac_A2_2 := fun o => cell_b c_A2_2 (below_alloc _ o)
          have ac_A3_2 := fun o => cell_b c_A3_2 (below_alloc _ o)
          have ac_R0_2 := fun o => cell_b c_R0_2 (below_alloc _ o)
          have ac_R1_2 := fun o => cell_b c_R1_2 (below_alloc _ o)
          have ac_R2_2 := fun o => cell_b c_R2_2 (below_alloc _ o)
          have ac_R3_2 := fun o => cell_b c_R3_2 (below_alloc _ o)
          have af_R0_2 := fun o => frz_b (cell_lt c_R0_2) f_R0_2 (below_alloc _ o)
          have af_R1_2 := fun o => frz_b (cell_lt c_R1_2) f_R1_2 (below_alloc _ o)
          have af_R2_2 := fun o => frz_b (cell_lt c_R2_2) f_R2_2 (below_alloc _ o)
          have af_R3_2 := fun o => frz_b (cell_lt c_R3_2) f_R3_2 (below_alloc _ o)
          clear ac_A0_1 ac_A1_1 ac_A2_1 ac_A3_1 ac_R0_1 ac_R1_1 ac_R2_1 ac_R3_1 af_R0_1 af_R1_1 af_R2_1 af_R3_1 c_A0_1 c_A1_1 c_A2_1 c_A3_1 c_R0_1 c_R1_1 c_R2_1 c_R3_1 f_R0_1 f_R1_1 f_R2_1 f_R3_1 hb D2 T1
          go_wp2_with fail
          refine (I_cloneInts _ _ xs (rd_below HR.out T2.out) (by omega)).mono ?_
          rintro e w3 ⟨a3, cap3, rfl, hd, hb⟩
          have D3 : Below w2.heap.size w2 w3 := hb
          have c_A0_3 := cell_b c_A0_2 D3
          have c_A1_3 := cell_b c_A1_2 D3
          have c_A2_3 := cell_b c_A2_2 D3
          have c_A3_3 := cell_b c_A3_2 D3
          have c_R0_3 := cell_b c_R0_2 D3
          have c_R1_3 := cell_b c_R1_2 D3
          have c_R2_3 := cell_b c_R2_2 D3
          have c_R3_3 := cell_b c_R3_2 D3
          have f_R0_3 := (D3.frozen (p := ⟨w.heap.size + 1, 0, none⟩) (World.block_lt_of_cell? _ _ c_R0_2)).trans f_R0_2
          have f_R1_3 := (D3.frozen (p := ⟨w.heap.size + 1, 1, none⟩) (World.block_lt_of_cell? _ _ c_R1_2)).trans f_R1_2
          have f_R2_3 := (D3.frozen (p := ⟨w.heap.size + 1, 2, none⟩) (World.block_lt_of_cell? _ _ c_R2_2)).trans f_R2_2
          have f_R3_3 := (D3.frozen (p := ⟨w.heap.size + 1, 3, none⟩) (World.block_lt_of_cell? _ _ c_R3_2)).trans f_R3_2
          have T3 := Lib.hid (below_trans T2.out D3)
          have z3 : w2.heap.size ≤ w3.heap.size := (by have := hb.size; (try simp at this); omega)
          have o_d_3 := Lib.hid (own_base hd (show w2.heap.size ≤ _ by simp; try omega))
          have lo_d := Lib.hid (own_lo o_d_3.out)
          have hi_d := Lib.hid (own_hi o_d_3.out)
          have ac_A0_3 := fun o => cell_b c_A0_3 (below_alloc _ o)
          have ac_A1_3 := fun o => cell_b c_A1_3 (below_alloc _ o)
          have ac_A2_3 := fun o => cell_b c_A2_3 (below_alloc _ o)
          have ac_A3_3 := fun o => cell_b c_A3_3 (below_alloc _ o)
          have ac_R0_3 := fun o => cell_b c_R0_3 (below_alloc _ o)
          have ac_R1_3 := fun o => cell_b c_R1_3 (below_alloc _ o)
          have ac_R2_3 := fun o => cell_b c_R2_3 (below_alloc _ o)
          have ac_R3_3 := fun o => cell_b c_R3_3 (below_alloc _ o)
          have af_R0_3 := fun o => frz_b (cell_lt c_R0_3) f_R0_3 (below_alloc _ o)
          have af_R1_3 := fun o => frz_b (cell_lt c_R1_3) f_R1_3 (below_alloc _ o)
          have af_R2_3 := fun o => frz_b (cell_lt c_R2_3) f_R2_3 (below_alloc _ o)
          have af_R3_3 := fun o => frz_b (cell_lt c_R3_3) f_R3_3 (below_alloc _ o)
          clear ac_A0_2 ac_A1_2 ac_A2_2 ac_A3_2 ac_R0_2 ac_R1_2 ac_R2_2 ac_R3_2 af_R0_2 af_R1_2 af_R2_2 af_R3_2 c_A0_2 c_A1_2 c_A2_2 c_A3_2 c_R0_2 c_R1_2 c_R2_2 c_R3_2 f_R0_2 f_R1_2 f_R2_2 f_R3_2 hb D3 hd T2
          go_wp2_with fail
          have O3 := o_d_3.out
          refine bodyPost_ret (v := .tuple #[.agg #[.int .i64 2, .int .i64 o, .int .i64 z, .slice none 0 0], .slice a3 xs.length cap3, .bool true]) (by simp [results, Try.results32, go_sem, c_R0_3, c_R1_3, c_R2_3, c_R3_3]) rfl ⟨_, _, _, _, rfl, ow_nil _ _, ?_, ne_nil _ _ _, ((((T3.out).setCell (by simp) _).setCell (by simp) _).setCell (by simp) _).setCell (by simp) _⟩
          refine own_base (b := w2.heap.size) ?_ (by omega)
          repeat (first | exact O3 | refine ownsRow_setCell_below ?_ (by show _ + 1 < _; omega) _)
        · have hk' : val z = false := by simpa using hk
          clear hk
          have e0 : fin 1 o k xs o z = (0, 0, 0, [], false) := by simp [fin, hk']
          simp only [e0]
          clear e0
          go_enter Try.func32, Try.ntmps32
          have T0 := Lib.hid (Below.refl w.heap.size w)
          go_wp2_with fail
          refine (I_OnceValid _ 1 o k _ xs (rd_alloc (rd_alloc (rd_below HR.out T0.out) _) _) (by omega)).mono ?_
          rintro e w1 ⟨rfl, hb⟩
          have D1 : Below w.heap.size w w1 := below_trans (below_alloc _ _) (below_trans (below_alloc _ _) (hb))
          have T1 := Lib.hid (below_trans T0.out D1)
          have z1 : w.heap.size + 2 ≤ w1.heap.size := (by have := hb.size; (try simp at this); omega)
          have c_A0_1 := cell_b (p := ⟨w.heap.size, 0, none⟩) (v := .int .i64 1) (by simp) hb
          have c_A1_1 := cell_b (p := ⟨w.heap.size, 1, none⟩) (v := .int .i64 o) (by simp) hb
          have c_A2_1 := cell_b (p := ⟨w.heap.size, 2, none⟩) (v := .int .i64 k) (by simp) hb
          have c_A3_1 := cell_b (p := ⟨w.heap.size, 3, none⟩) (v := .slice a xs.length cap) (by simp) hb
          have c_R0_1 := cell_b (p := ⟨w.heap.size + 1, 0, none⟩) (v := .int .i64 0) (by simp) hb
          have f_R0_1 : w1.frozen? ⟨w.heap.size + 1, 0, none⟩ = false := (hb.frozen (p := ⟨w.heap.size + 1, 0, none⟩) (by simp; try omega)).trans (by simp)
          have c_R1_1 := cell_b (p := ⟨w.heap.size + 1, 1, none⟩) (v := .int .i64 0) (by simp) hb
          have f_R1_1 : w1.frozen? ⟨w.heap.size + 1, 1, none⟩ = false := (hb.frozen (p := ⟨w.heap.size + 1, 1, none⟩) (by simp; try omega)).trans (by simp)
          have c_R2_1 := cell_b (p := ⟨w.heap.size + 1, 2, none⟩) (v := .int .i64 0) (by simp) hb
          have f_R2_1 : w1.frozen? ⟨w.heap.size + 1, 2, none⟩ = false := (hb.frozen (p := ⟨w.heap.size + 1, 2, none⟩) (by simp; try omega)).trans (by simp)
          have c_R3_1 := cell_b (p := ⟨w.heap.size + 1, 3, none⟩) (v := .slice none 0 0) (by simp) hb
          have f_R3_1 : w1.frozen? ⟨w.heap.size + 1, 3, none⟩ = false := (hb.frozen (p := ⟨w.heap.size + 1, 3, none⟩) (by simp; try omega)).trans (by simp)
          have ac_A0_1 := fun o => cell_b c_A0_1 (below_alloc _ o)
          have ac_A1_1 := fun o => cell_b c_A1_1 (below_alloc _ o)
          have ac_A2_1 := fun o => cell_b c_A2_1 (below_alloc _ o)
          have ac_A3_1 := fun o => cell_b c_A3_1 (below_alloc _ o)
          have ac_R0_1 := fun o => cell_b c_R0_1 (below_alloc _ o)
          have ac_R1_1 := fun o => cell_b c_R1_1 (below_alloc _ o)
          have ac_R2_1 := fun o => cell_b c_R2_1 (below_alloc _ o)
          have ac_R3_1 := fun o => cell_b c_R3_1 (below_alloc _ o)
          have af_R0_1 := fun o => frz_b (cell_lt c_R0_1) f_R0_1 (below_alloc _ o)
          have af_R1_1 := fun o => frz_b (cell_lt c_R1_1) f_R1_1 (below_alloc _ o)
          have af_R2_1 := fun o => frz_b (cell_lt c_R2_1) f_R2_1 (below_alloc _ o)
          have af_R3_1 := fun o => frz_b (cell_lt c_R3_1) f_R3_1 (below_alloc _ o)
          clear hb D1 T0
          go_wp2_with fail
          refine (same_b (I_isValue _ z)).mono ?_
          rintro e w2 ⟨rfl, hb⟩
          have D2 : Below w1.heap.size w1 w2 := hb
          have c_A0_2 := cell_b c_A0_1 D2
          have c_A1_2 := cell_b c_A1_1 D2
          have c_A2_2 := cell_b c_A2_1 D2
          have c_A3_2 := cell_b c_A3_1 D2
          have c_R0_2 := cell_b c_R0_1 D2
          have c_R1_2 := cell_b c_R1_1 D2
          have c_R2_2 := cell_b c_R2_1 D2
          have c_R3_2 := cell_b c_R3_1 D2
          have f_R0_2 := (D2.frozen (p := ⟨w.heap.size + 1, 0, none⟩) (World.block_lt_of_cell? _ _ c_R0_1)).trans f_R0_1
          have f_R1_2 := (D2.frozen (p := ⟨w.heap.size + 1, 1, none⟩) (World.block_lt_of_cell? _ _ c_R1_1)).trans f_R1_1
          have f_R2_2 := (D2.frozen (p := ⟨w.heap.size + 1, 2, none⟩) (World.block_lt_of_cell? _ _ c_R2_1)).trans f_R2_1
          have f_R3_2 := (D2.frozen (p := ⟨w.heap.size + 1, 3, none⟩) (World.block_lt_of_cell? _ _ c_R3_1)).trans f_R3_1
          have T2 := Lib.hid (below_trans T1.out D2)
          have z2 : w1.heap.size ≤ w2.heap.size := (by have := hb.size; (try simp at this); omega)
          have ac_A0_2 := fun o => cell_b c_A0_2 (below_alloc _ o)
          have ac_A1_2 := fun o => cell_b c_A1_2 (below_alloc _ o)
          have ac_A2_2 := fun o => cell_b c_A2_2 (below_alloc _ o)
          have ac_A3_2 := fun o => cell_b c_A3_2 (below_alloc _ o)
          have ac_R0_2 := fun o => cell_b c_R0_2 (below_alloc _ o)
          have ac_R1_2 := fun o => cell_b c_R1_2 (below_alloc _ o)
          have ac_R2_2 := fun o => cell_b c_R2_2 (below_alloc _ o)
          have ac_R3_2 := fun o => cell_b c_R3_2 (below_alloc _ o)
          have af_R0_2 := fun o => frz_b (cell_lt c_R0_2) f_R0_2 (below_alloc _ o)
          have af_R1_2 := fun o => frz_b (cell_lt c_R1_2) f_R1_2 (below_alloc _ o)
          have af_R2_2 := fun o => frz_b (cell_lt c_R2_2) f_R2_2 (below_alloc _ o)
          have af_R3_2 := fun o => frz_b (cell_lt c_R3_2) f_R3_2 (below_alloc _ o)
          clear ac_A0_1 ac_A1_1 ac_A2_1 ac_A3_1 ac_R0_1 ac_R1_1 ac_R2_1 ac_R3_1 af_R0_1 af_R1_1 af_R2_1 af_R3_1 c_A0_1 c_A1_1 c_A2_1 c_A3_1 c_R0_1 c_R1_1 c_R2_1 c_R3_1 f_R0_1 f_R1_1 f_R2_1 f_R3_1 hb D2 T1
          go_wp2_with fail
          refine bodyPost_ret (v := .tuple #[.agg #[.int .i64 0, .int .i64 0, .int .i64 0, .slice none 0 0], .slice none 0 0, .bool false]) (by simp [results, Try.results32, go_sem, c_R0_2, c_R1_2, c_R2_2, c_R3_2]) rfl ⟨_, _, _, _, rfl, ow_nil _ _, ow_nil _ _, ne_nil _ _ _, ((((T2.out).setCell (by simp) _).setCell (by simp) _).setCell (by simp) _).setCell (by simp) _⟩
      · have e0 : fin 1 o k xs t z = (0, 0, 0, [], false) := by simp [fin, runs, ho]
        simp only [e0]
        clear e0
        go_enter Try.func32, Try.ntmps32
        have T0 := Lib.hid (Below.refl w.heap.size w)
        go_wp2_with fail
        refine (I_OnceValid _ 1 o k _ xs (rd_alloc (rd_alloc (rd_below HR.out T0.out) _) _) (by omega)).mono ?_
        rintro e w1 ⟨rfl, hb⟩
        have D1 : Below w.heap.size w w1 := below_trans (below_alloc _ _) (below_trans (below_alloc _ _) (hb))
        have T1 := Lib.hid (below_trans T0.out D1)
        have z1 : w.heap.size + 2 ≤ w1.heap.size := (by have := hb.size; (try simp at this); omega)
        have c_A0_1 := cell_b (p := ⟨w.heap.size, 0, none⟩) (v := .int .i64 1) (by simp) hb
        have c_A1_1 := cell_b (p := ⟨w.heap.size, 1, none⟩) (v := .int .i64 o) (by simp) hb
        have c_A2_1 := cell_b (p := ⟨w.heap.size, 2, none⟩) (v := .int .i64 k) (by simp) hb
        have c_A3_1 := cell_b (p := ⟨w.heap.size, 3, none⟩) (v := .slice a xs.length cap) (by simp) hb
        have c_R0_1 := cell_b (p := ⟨w.heap.size + 1, 0, none⟩) (v := .int .i64 0) (by simp) hb
        have f_R0_1 : w1.frozen? ⟨w.heap.size + 1, 0, none⟩ = false := (hb.frozen (p := ⟨w.heap.size + 1, 0, none⟩) (by simp; try omega)).trans (by simp)
        have c_R1_1 := cell_b (p := ⟨w.heap.size + 1, 1, none⟩) (v := .int .i64 0) (by simp) hb
        have f_R1_1 : w1.frozen? ⟨w.heap.size + 1, 1, none⟩ = false := (hb.frozen (p := ⟨w.heap.size + 1, 1, none⟩) (by simp; try omega)).trans (by simp)
        have c_R2_1 := cell_b (p := ⟨w.heap.size + 1, 2, none⟩) (v := .int .i64 0) (by simp) hb
        have f_R2_1 : w1.frozen? ⟨w.heap.size + 1, 2, none⟩ = false := (hb.frozen (p := ⟨w.heap.size + 1, 2, none⟩) (by simp; try omega)).trans (by simp)
        have c_R3_1 := cell_b (p := ⟨w.heap.size + 1, 3, none⟩) (v := .slice none 0 0) (by simp) hb
        have f_R3_1 : w1.frozen? ⟨w.heap.size + 1, 3, none⟩ = false := (hb.frozen (p := ⟨w.heap.size + 1, 3, none⟩) (by simp; try omega)).trans (by simp)
        have ac_A0_1 := fun o => cell_b c_A0_1 (below_alloc _ o)
        have ac_A1_1 := fun o => cell_b c_A1_1 (below_alloc _ o)
        have ac_A2_1 := fun o => cell_b c_A2_1 (below_alloc _ o)
        have ac_A3_1 := fun o => cell_b c_A3_1 (below_alloc _ o)
        have ac_R0_1 := fun o => cell_b c_R0_1 (below_alloc _ o)
        have ac_R1_1 := fun o => cell_b c_R1_1 (below_alloc _ o)
        have ac_R2_1 := fun o => cell_b c_R2_1 (below_alloc _ o)
        have ac_R3_1 := fun o => cell_b c_R3_1 (below_alloc _ o)
        have af_R0_1 := fun o => frz_b (cell_lt c_R0_1) f_R0_1 (below_alloc _ o)
        have af_R1_1 := fun o => frz_b (cell_lt c_R1_1) f_R1_1 (below_alloc _ o)
        have af_R2_1 := fun o => frz_b (cell_lt c_R2_1) f_R2_1 (below_alloc _ o)
        have af_R3_1 := fun o => frz_b (cell_lt c_R3_1) f_R3_1 (below_alloc _ o)
        clear hb D1 T0
        go_wp2_with fail
        refine bodyPost_ret (v := .tuple #[.agg #[.int .i64 0, .int .i64 0, .int .i64 0, .slice none 0 0], .slice none 0 0, .bool false]) (by simp [results, Try.results32, go_sem, c_R0_1, c_R1_1, c_R2_1, c_R3_1]) rfl ⟨_, _, _, _, rfl, ow_nil _ _, ow_nil _ _, ne_nil _ _ _, ((((T1.out).setCell (by simp) _).setCell (by simp) _).setCell (by simp) _).setCell (by simp) _⟩
    · have e0 : fin s o k xs t z = (0, 0, 0, [], false) := by simp [fin, runs, h1]
      simp only [e0]
      clear e0
      go_enter Try.func32, Try.ntmps32
      have T0 := Lib.hid (Below.refl w.heap.size w)
      go_wp2_with fail
      refine (I_OnceValid _ s o k _ xs (rd_alloc (rd_alloc (rd_below HR.out T0.out) _) _) (by omega)).mono ?_
      rintro e w1 ⟨rfl, hb⟩
      have D1 : Below w.heap.size w w1 := below_trans (below_alloc _ _) (below_trans (below_alloc _ _) (hb))
      have T1 := Lib.hid (below_trans T0.out D1)
      have z1 : w.heap.size + 2 ≤ w1.heap.size := (by have := hb.size; (try simp at this); omega)
      have c_A0_1 := cell_b (p := ⟨w.heap.size, 0, none⟩) (v := .int .i64 s) (by simp) hb
      have c_A1_1 := cell_b (p := ⟨w.heap.size, 1, none⟩) (v := .int .i64 o) (by simp) hb
      have c_A2_1 := cell_b (p := ⟨w.heap.size, 2, none⟩) (v := .int .i64 k) (by simp) hb
      have c_A3_1 := cell_b (p := ⟨w.heap.size, 3, none⟩) (v := .slice a xs.length cap) (by simp) hb
      have c_R0_1 := cell_b (p := ⟨w.heap.size + 1, 0, none⟩) (v := .int .i64 0) (by simp) hb
      have f_R0_1 : w1.frozen? ⟨w.heap.size + 1, 0, none⟩ = false := (hb.frozen (p := ⟨w.heap.size + 1, 0, none⟩) (by simp; try omega)).trans (by simp)
      have c_R1_1 := cell_b (p := ⟨w.heap.size + 1, 1, none⟩) (v := .int .i64 0) (by simp) hb
      have f_R1_1 : w1.frozen? ⟨w.heap.size + 1, 1, none⟩ = false := (hb.frozen (p := ⟨w.heap.size + 1, 1, none⟩) (by simp; try omega)).trans (by simp)
      have c_R2_1 := cell_b (p := ⟨w.heap.size + 1, 2, none⟩) (v := .int .i64 0) (by simp) hb
      have f_R2_1 : w1.frozen? ⟨w.heap.size + 1, 2, none⟩ = false := (hb.frozen (p := ⟨w.heap.size + 1, 2, none⟩) (by simp; try omega)).trans (by simp)
      have c_R3_1 := cell_b (p := ⟨w.heap.size + 1, 3, none⟩) (v := .slice none 0 0) (by simp) hb
      have f_R3_1 : w1.frozen? ⟨w.heap.size + 1, 3, none⟩ = false := (hb.frozen (p := ⟨w.heap.size + 1, 3, none⟩) (by simp; try omega)).trans (by simp)
      have ac_A0_1 := fun o => cell_b c_A0_1 (below_alloc _ o)
      have ac_A1_1 := fun o => cell_b c_A1_1 (below_alloc _ o)
      have ac_A2_1 := fun o => cell_b c_A2_1 (below_alloc _ o)
      have ac_A3_1 := fun o => cell_b c_A3_1 (below_alloc _ o)
      have ac_R0_1 := fun o => cell_b c_R0_1 (below_alloc _ o)
      have ac_R1_1 := fun o => cell_b c_R1_1 (below_alloc _ o)
      have ac_R2_1 := fun o => cell_b c_R2_1 (below_alloc _ o)
      have ac_R3_1 := fun o => cell_b c_R3_1 (below_alloc _ o)
      have af_R0_1 := fun o => frz_b (cell_lt c_R0_1) f_R0_1 (below_alloc _ o)
      have af_R1_1 := fun o => frz_b (cell_lt c_R1_1) f_R1_1 (below_alloc _ o)
      have af_R2_1 := fun o => frz_b (cell_lt c_R2_1) f_R2_1 (below_alloc _ o)
      have af_R3_1 := fun o => frz_b (cell_lt c_R3_1) f_R3_1 (below_alloc _ o)
      clear hb D1 T0
      go_wp2_with fail
      refine bodyPost_ret (v := .tuple #[.agg #[.int .i64 0, .int .i64 0, .int .i64 0, .slice none 0 0], .slice none 0 0, .bool false]) (by simp [results, Try.results32, go_sem, c_R0_1, c_R1_1, c_R2_1, c_R3_1]) rfl ⟨_, _, _, _, rfl, ow_nil _ _, ow_nil _ _, ne_nil _ _ _, ((((T1.out).setCell (by simp) _).setCell (by simp) _).setCell (by simp) _).setCell (by simp) _⟩
  · have hv' : oval s o k xs = false := by simpa using hv
    clear hv
    have e0 : fin s o k xs t z = (0, 0, 0, [], false) := by simp [fin, runs, hv']
    simp only [e0]
    clear e0
    go_enter Try.func32, Try.ntmps32
    have T0 := Lib.hid (Below.refl w.heap.size w)
    go_wp2_with fail
    refine (I_OnceValid _ s o k _ xs (rd_alloc (rd_alloc (rd_below HR.out T0.out) _) _) (by omega)).mono ?_
    rintro e w1 ⟨rfl, hb⟩
    have D1 : Below w.heap.size w w1 := below_trans (below_alloc _ _) (below_trans (below_alloc _ _) (hb))
    have T1 := Lib.hid (below_trans T0.out D1)
    have z1 : w.heap.size + 2 ≤ w1.heap.size := (by have := hb.size; (try simp at this); omega)
    have c_A0_1 := cell_b (p := ⟨w.heap.size, 0, none⟩) (v := .int .i64 s) (by simp) hb
    have c_A1_1 := cell_b (p := ⟨w.heap.size, 1, none⟩) (v := .int .i64 o) (by simp) hb
    have c_A2_1 := cell_b (p := ⟨w.heap.size, 2, none⟩) (v := .int .i64 k) (by simp) hb
    have c_A3_1 := cell_b (p := ⟨w.heap.size, 3, none⟩) (v := .slice a xs.length cap) (by simp) hb
    have c_R0_1 := cell_b (p := ⟨w.heap.size + 1, 0, none⟩) (v := .int .i64 0) (by simp) hb
    have f_R0_1 : w1.frozen? ⟨w.heap.size + 1, 0, none⟩ = false := (hb.frozen (p := ⟨w.heap.size + 1, 0, none⟩) (by simp; try omega)).trans (by simp)
    have c_R1_1 := cell_b (p := ⟨w.heap.size + 1, 1, none⟩) (v := .int .i64 0) (by simp) hb
    have f_R1_1 : w1.frozen? ⟨w.heap.size + 1, 1, none⟩ = false := (hb.frozen (p := ⟨w.heap.size + 1, 1, none⟩) (by simp; try omega)).trans (by simp)
    have c_R2_1 := cell_b (p := ⟨w.heap.size + 1, 2, none⟩) (v := .int .i64 0) (by simp) hb
    have f_R2_1 : w1.frozen? ⟨w.heap.size + 1, 2, none⟩ = false := (hb.frozen (p := ⟨w.heap.size + 1, 2, none⟩) (by simp; try omega)).trans (by simp)
    have c_R3_1 := cell_b (p := ⟨w.heap.size + 1, 3, none⟩) (v := .slice none 0 0) (by simp) hb
    have f_R3_1 : w1.frozen? ⟨w.heap.size + 1, 3, none⟩ = false := (hb.frozen (p := ⟨w.heap.size + 1, 3, none⟩) (by simp; try omega)).trans (by simp)
    have ac_A0_1 := fun o => cell_b c_A0_1 (below_alloc _ o)
    have ac_A1_1 := fun o => cell_b c_A1_1 (below_alloc _ o)
    have ac_A2_1 := fun o => cell_b c_A2_1 (below_alloc _ o)
    have ac_A3_1 := fun o => cell_b c_A3_1 (below_alloc _ o)
    have ac_R0_1 := fun o => cell_b c_R0_1 (below_alloc _ o)
    have ac_R1_1 := fun o => cell_b c_R1_1 (below_alloc _ o)
    have ac_R2_1 := fun o => cell_b c_R2_1 (below_alloc _ o)
    have ac_R3_1 := fun o => cell_b c_R3_1 (below_alloc _ o)
    have af_R0_1 := fun o => frz_b (cell_lt c_R0_1) f_R0_1 (below_alloc _ o)
    have af_R1_1 := fun o => frz_b (cell_lt c_R1_1) f_R1_1 (below_alloc _ o)
    have af_R2_1 := fun o => frz_b (cell_lt c_R2_1) f_R2_1 (below_alloc _ o)
    have af_R3_1 := fun o => frz_b (cell_lt c_R3_1) f_R3_1 (below_alloc _ o)
    clear hb D1 T0
    go_wp2_with fail
    refine bodyPost_ret (v := .tuple #[.agg #[.int .i64 0, .int .i64 0, .int .i64 0, .slice none 0 0], .slice none 0 0, .bool false]) (by simp [results, Try.results32, go_sem, c_R0_1, c_R1_1, c_R2_1, c_R3_1]) rfl ⟨_, _, _, _, rfl, ow_nil _ _, ow_nil _ _, ne_nil _ _ _, ((((T1.out).setCell (by simp) _).setCell (by simp) _).setCell (by simp) _).setCell (by simp) _⟩

set_option maxHeartbeats 4000000 in
set_option maxRecDepth 100000 in
theorem S_FinishOnce (w : World) (s o k : Int) (v : Value) (xs : List Int) (t z : Int) (hr : Rd w v xs) (hl : xs.length ≤ 4294967296) :
    Calls Try.prog 55 #[.agg #[.int .i64 s, .int .i64 o, .int .i64 k, v], .int .i64 t, .int .i64 z] w fun e w' => ∃ a cap b cap', e = .returned (.tuple #[.agg #[.int .i64 (fin s o k xs t z).1, .int .i64 (fin s o k xs t z).2.1, .int .i64 (fin s o k xs t z).2.2.1, .slice a ([] : List Int).length cap], .slice b (fin s o k xs t z).2.2.2.1.length cap', .bool (fin s o k xs t z).2.2.2.2]) ∧
      Ow w' w.heap.size (.slice a ([] : List Int).length cap) [] ∧ Ow w' w.heap.size (.slice b (fin s o k xs t z).2.2.2.1.length cap') (fin s o k xs t z).2.2.2.1 ∧
      NE (.slice a ([] : List Int).length cap) (.slice b (fin s o k xs t z).2.2.2.1.length cap') ∧ Below w.heap.size w w' := by
  obtain ⟨i0, hi, hz0, hz1, hz2⟩ := info_parts info3
  have HR := Lib.hid hr
  obtain ⟨a, cap, rfl, hcap, hnc, hr⟩ := hr
  clear hr hnc
  by_cases hv : runs s o k xs t = true
  · by_cases hk : val z = true
    · have e0 : fin s o k xs t z = (2, t, z, xs, true) := by simp [fin, hv, hk]
      simp only [e0]
      clear e0
      go_enter Try.func55, Try.ntmps55
      have T0 := Lib.hid (Below.refl w.heap.size w)
      go_wp2_with fail
      refine (S_l2Runs _ s o k _ xs t (rd_alloc (rd_alloc (rd_below HR.out T0.out) _) _) (by omega)).mono ?_
      rintro e w1 ⟨rfl, hb⟩
      have D1 : Below w.heap.size w w1 := below_trans (below_alloc _ _) (below_trans (below_alloc _ _) (hb))
      have T1 := Lib.hid (below_trans T0.out D1)
      have z1 : w.heap.size + 2 ≤ w1.heap.size := (by have := hb.size; (try simp at this); omega)
      have c_A0_1 := cell_b (p := ⟨w.heap.size, 0, none⟩) (v := .int .i64 s) (by simp) hb
      have c_A1_1 := cell_b (p := ⟨w.heap.size, 1, none⟩) (v := .int .i64 o) (by simp) hb
      have c_A2_1 := cell_b (p := ⟨w.heap.size, 2, none⟩) (v := .int .i64 k) (by simp) hb
      have c_A3_1 := cell_b (p := ⟨w.heap.size, 3, none⟩) (v := .slice a xs.length cap) (by simp) hb
      have c_R0_1 := cell_b (p := ⟨w.heap.size + 1, 0, none⟩) (v := .int .i64 0) (by simp) hb
      have f_R0_1 : w1.frozen? ⟨w.heap.size + 1, 0, none⟩ = false := (hb.frozen (p := ⟨w.heap.size + 1, 0, none⟩) (by simp; try omega)).trans (by simp)
      have c_R1_1 := cell_b (p := ⟨w.heap.size + 1, 1, none⟩) (v := .int .i64 0) (by simp) hb
      have f_R1_1 : w1.frozen? ⟨w.heap.size + 1, 1, none⟩ = false := (hb.frozen (p := ⟨w.heap.size + 1, 1, none⟩) (by simp; try omega)).trans (by simp)
      have c_R2_1 := cell_b (p := ⟨w.heap.size + 1, 2, none⟩) (v := .int .i64 0) (by simp) hb
      have f_R2_1 : w1.frozen? ⟨w.heap.size + 1, 2, none⟩ = false := (hb.frozen (p := ⟨w.heap.size + 1, 2, none⟩) (by simp; try omega)).trans (by simp)
      have c_R3_1 := cell_b (p := ⟨w.heap.size + 1, 3, none⟩) (v := .slice none 0 0) (by simp) hb
      have f_R3_1 : w1.frozen? ⟨w.heap.size + 1, 3, none⟩ = false := (hb.frozen (p := ⟨w.heap.size + 1, 3, none⟩) (by simp; try omega)).trans (by simp)
      have ac_A0_1 := fun o => cell_b c_A0_1 (below_alloc _ o)
      have ac_A1_1 := fun o => cell_b c_A1_1 (below_alloc _ o)
      have ac_A2_1 := fun o => cell_b c_A2_1 (below_alloc _ o)
      have ac_A3_1 := fun o => cell_b c_A3_1 (below_alloc _ o)
      have ac_R0_1 := fun o => cell_b c_R0_1 (below_alloc _ o)
      have ac_R1_1 := fun o => cell_b c_R1_1 (below_alloc _ o)
      have ac_R2_1 := fun o => cell_b c_R2_1 (below_alloc _ o)
      have ac_R3_1 := fun o => cell_b c_R3_1 (below_alloc _ o)
      have af_R0_1 := fun o => frz_b (cell_lt c_R0_1) f_R0_1 (below_alloc _ o)
      have af_R1_1 := fun o => frz_b (cell_lt c_R1_1) f_R1_1 (below_alloc _ o)
      have af_R2_1 := fun o => frz_b (cell_lt c_R2_1) f_R2_1 (below_alloc _ o)
      have af_R3_1 := fun o => frz_b (cell_lt c_R3_1) f_R3_1 (below_alloc _ o)
      clear hb D1 T0
      go_wp2_with fail
      refine (same_b (S_l2Value _ z)).mono ?_
      rintro e w2 ⟨rfl, hb⟩
      have D2 : Below w1.heap.size w1 w2 := hb
      have c_A0_2 := cell_b c_A0_1 D2
      have c_A1_2 := cell_b c_A1_1 D2
      have c_A2_2 := cell_b c_A2_1 D2
      have c_A3_2 := cell_b c_A3_1 D2
      have c_R0_2 := cell_b c_R0_1 D2
      have c_R1_2 := cell_b c_R1_1 D2
      have c_R2_2 := cell_b c_R2_1 D2
      have c_R3_2 := cell_b c_R3_1 D2
      have f_R0_2 := (D2.frozen (p := ⟨w.heap.size + 1, 0, none⟩) (World.block_lt_of_cell? _ _ c_R0_1)).trans f_R0_1
      have f_R1_2 := (D2.frozen (p := ⟨w.heap.size + 1, 1, none⟩) (World.block_lt_of_cell? _ _ c_R1_1)).trans f_R1_1
      have f_R2_2 := (D2.frozen (p := ⟨w.heap.size + 1, 2, none⟩) (World.block_lt_of_cell? _ _ c_R2_1)).trans f_R2_1
      have f_R3_2 := (D2.frozen (p := ⟨w.heap.size + 1, 3, none⟩) (World.block_lt_of_cell? _ _ c_R3_1)).trans f_R3_1
      have T2 := Lib.hid (below_trans T1.out D2)
      have z2 : w1.heap.size ≤ w2.heap.size := (by have := hb.size; (try simp at this); omega)
      have ac_A0_2 := fun o => cell_b c_A0_2 (below_alloc _ o)
      have ac_A1_2 := fun o => cell_b c_A1_2 (below_alloc _ o)
      have ac_A2_2 := fun o => cell_b c_A2_2 (below_alloc _ o)
      have ac_A3_2 := fun o => cell_b c_A3_2 (below_alloc _ o)
      have ac_R0_2 := fun o => cell_b c_R0_2 (below_alloc _ o)
      have ac_R1_2 := fun o => cell_b c_R1_2 (below_alloc _ o)
      have ac_R2_2 := fun o => cell_b c_R2_2 (below_alloc _ o)
      have ac_R3_2 := fun o => cell_b c_R3_2 (below_alloc _ o)
      have af_R0_2 := fun o => frz_b (cell_lt c_R0_2) f_R0_2 (below_alloc _ o)
      have af_R1_2 := fun o => frz_b (cell_lt c_R1_2) f_R1_2 (below_alloc _ o)
      have af_R2_2 := fun o => frz_b (cell_lt c_R2_2) f_R2_2 (below_alloc _ o)
      have af_R3_2 := fun o => frz_b (cell_lt c_R3_2) f_R3_2 (below_alloc _ o)
      clear ac_A0_1 ac_A1_1 ac_A2_1 ac_A3_1 ac_R0_1 ac_R1_1 ac_R2_1 ac_R3_1 af_R0_1 af_R1_1 af_R2_1 af_R3_1 c_A0_1 c_A1_1 c_A2_1 c_A3_1 c_R0_1 c_R1_1 c_R2_1 c_R3_1 f_R0_1 f_R1_1 f_R2_1 f_R3_1 hb D2 T1
      have tok3 : True := trivial
      go_wp2_with (first | (at_builtin; have _t := tok3; refine wpList_append_rd rfl _ _ 23 rfl (w2.heap.size) i0 Try.underlying23 hi hz0 hz1 hz2 (.slice (some ⟨w2.heap.size, 0, none⟩) 0 0) (0) ([]) rfl (World.ownsRow_made _ #[] 0 (by simp) (by unfold maxLen; omega) rfl) _ _ _ (xs) rfl (rd_alloc (rd_below HR.out T2.out) _) rfl (by unfold maxLen; omega) (by omega) (by simp; try omega) ?_; intro v3 w3 hown hgrow; clear tok3; have ho : w3.ownsRow (w2.heap.size) 3 1 v3 ((xs).length) (ints (xs)) := (by rw [Nat.zero_add, List.nil_append] at hown; exact hown); obtain ⟨a3, cap3, hv⟩ := own_shape ho; subst hv; have c_A0_3 := cell_gr (cell_b c_A0_2 (below_alloc _ _)) hgrow (fun g h => by simp only [Value.ownBlock, Option.some.injEq] at h; show w.heap.size ≠ g; omega); have c_A1_3 := cell_gr (cell_b c_A1_2 (below_alloc _ _)) hgrow (fun g h => by simp only [Value.ownBlock, Option.some.injEq] at h; show w.heap.size ≠ g; omega); have c_A2_3 := cell_gr (cell_b c_A2_2 (below_alloc _ _)) hgrow (fun g h => by simp only [Value.ownBlock, Option.some.injEq] at h; show w.heap.size ≠ g; omega); have c_A3_3 := cell_gr (cell_b c_A3_2 (below_alloc _ _)) hgrow (fun g h => by simp only [Value.ownBlock, Option.some.injEq] at h; show w.heap.size ≠ g; omega); have c_R0_3 := cell_gr (cell_b c_R0_2 (below_alloc _ _)) hgrow (fun g h => by simp only [Value.ownBlock, Option.some.injEq] at h; show w.heap.size + 1 ≠ g; omega); have c_R1_3 := cell_gr (cell_b c_R1_2 (below_alloc _ _)) hgrow (fun g h => by simp only [Value.ownBlock, Option.some.injEq] at h; show w.heap.size + 1 ≠ g; omega); have c_R2_3 := cell_gr (cell_b c_R2_2 (below_alloc _ _)) hgrow (fun g h => by simp only [Value.ownBlock, Option.some.injEq] at h; show w.heap.size + 1 ≠ g; omega); have c_R3_3 := cell_gr (cell_b c_R3_2 (below_alloc _ _)) hgrow (fun g h => by simp only [Value.ownBlock, Option.some.injEq] at h; show w.heap.size + 1 ≠ g; omega); have f_R0_3 := (frz_gr (p := ⟨w.heap.size + 1, 0, none⟩) (cell_lt (cell_b c_R0_2 (below_alloc _ _))) hgrow (fun g h => by simp only [Value.ownBlock, Option.some.injEq] at h; show w.heap.size + 1 ≠ g; omega)).trans (frz_b (cell_lt c_R0_2) f_R0_2 (below_alloc _ _)); have f_R1_3 := (frz_gr (p := ⟨w.heap.size + 1, 1, none⟩) (cell_lt (cell_b c_R1_2 (below_alloc _ _))) hgrow (fun g h => by simp only [Value.ownBlock, Option.some.injEq] at h; show w.heap.size + 1 ≠ g; omega)).trans (frz_b (cell_lt c_R1_2) f_R1_2 (below_alloc _ _)); have f_R2_3 := (frz_gr (p := ⟨w.heap.size + 1, 2, none⟩) (cell_lt (cell_b c_R2_2 (below_alloc _ _))) hgrow (fun g h => by simp only [Value.ownBlock, Option.some.injEq] at h; show w.heap.size + 1 ≠ g; omega)).trans (frz_b (cell_lt c_R2_2) f_R2_2 (below_alloc _ _)); have f_R3_3 := (frz_gr (p := ⟨w.heap.size + 1, 3, none⟩) (cell_lt (cell_b c_R3_2 (below_alloc _ _))) hgrow (fun g h => by simp only [Value.ownBlock, Option.some.injEq] at h; show w.heap.size + 1 ≠ g; omega)).trans (frz_b (cell_lt c_R3_2) f_R3_2 (below_alloc _ _)); have z3 : w2.heap.size + 1 ≤ w3.heap.size := (by have := hgrow.size; (try simp at this); omega); have T3 := Lib.hid (below_gr (T2.out.trans ((below_alloc _ _ : Below w2.heap.size w2 _).mono T2.out.size)) (by have := T2.out.size; simp; try omega) hgrow (fun g h => by have h9 := T2.out.size; simp only [Value.ownBlock, Option.some.injEq] at h; omega)); have o_d_3 := Lib.hid ho; have lo_d := Lib.hid (own_lo o_d_3.out); have hi_d := Lib.hid (own_hi o_d_3.out); have ac_A0_3 := fun o => cell_b c_A0_3 (below_alloc _ o); have ac_A1_3 := fun o => cell_b c_A1_3 (below_alloc _ o); have ac_A2_3 := fun o => cell_b c_A2_3 (below_alloc _ o); have ac_A3_3 := fun o => cell_b c_A3_3 (below_alloc _ o); have ac_R0_3 := fun o => cell_b c_R0_3 (below_alloc _ o); have ac_R1_3 := fun o => cell_b c_R1_3 (below_alloc _ o); have ac_R2_3 := fun o => cell_b c_R2_3 (below_alloc _ o); have ac_R3_3 := fun o => cell_b c_R3_3 (below_alloc _ o); have af_R0_3 := fun o => frz_b (cell_lt c_R0_3) f_R0_3 (below_alloc _ o); have af_R1_3 := fun o => frz_b (cell_lt c_R1_3) f_R1_3 (below_alloc _ o); have af_R2_3 := fun o => frz_b (cell_lt c_R2_3) f_R2_3 (below_alloc _ o); have af_R3_3 := fun o => frz_b (cell_lt c_R3_3) f_R3_3 (below_alloc _ o); clear hown hgrow ho T2 ac_A0_2 ac_A1_2 ac_A2_2 ac_A3_2 ac_R0_2 ac_R1_2 ac_R2_2 ac_R3_2 af_R0_2 af_R1_2 af_R2_2 af_R3_2 c_A0_2 c_A1_2 c_A2_2 c_A3_2 c_R0_2 c_R1_2 c_R2_2 c_R3_2 f_R0_2 f_R1_2 f_R2_2 f_R3_2))
      go_wp2_with fail
      have O3 := o_d_3.out
      refine bodyPost_ret (v := .tuple #[.agg #[.int .i64 2, .int .i64 t, .int .i64 z, .slice none 0 0], .slice a3 xs.length cap3, .bool true]) (by simp [results, Try.results55, go_sem, c_R0_3, c_R1_3, c_R2_3, c_R3_3]) rfl ⟨_, _, _, _, rfl, ow_nil _ _, ?_, ne_nil _ _ _, ((((T3.out).setCell (by simp) _).setCell (by simp) _).setCell (by simp) _).setCell (by simp) _⟩
      refine own_base (b := w2.heap.size) ?_ (by omega)
      repeat (first | exact O3 | refine ownsRow_setCell_below ?_ (by show _ + 1 < _; omega) _)
    · have hk' : val z = false := by simpa using hk
      clear hk
      have e0 : fin s o k xs t z = (0, 0, 0, [], false) := by simp [fin, hk']
      simp only [e0]
      clear e0
      go_enter Try.func55, Try.ntmps55
      have T0 := Lib.hid (Below.refl w.heap.size w)
      go_wp2_with fail
      refine (S_l2Runs _ s o k _ xs t (rd_alloc (rd_alloc (rd_below HR.out T0.out) _) _) (by omega)).mono ?_
      rintro e w1 ⟨rfl, hb⟩
      have D1 : Below w.heap.size w w1 := below_trans (below_alloc _ _) (below_trans (below_alloc _ _) (hb))
      have T1 := Lib.hid (below_trans T0.out D1)
      have z1 : w.heap.size + 2 ≤ w1.heap.size := (by have := hb.size; (try simp at this); omega)
      have c_A0_1 := cell_b (p := ⟨w.heap.size, 0, none⟩) (v := .int .i64 s) (by simp) hb
      have c_A1_1 := cell_b (p := ⟨w.heap.size, 1, none⟩) (v := .int .i64 o) (by simp) hb
      have c_A2_1 := cell_b (p := ⟨w.heap.size, 2, none⟩) (v := .int .i64 k) (by simp) hb
      have c_A3_1 := cell_b (p := ⟨w.heap.size, 3, none⟩) (v := .slice a xs.length cap) (by simp) hb
      have c_R0_1 := cell_b (p := ⟨w.heap.size + 1, 0, none⟩) (v := .int .i64 0) (by simp) hb
      have f_R0_1 : w1.frozen? ⟨w.heap.size + 1, 0, none⟩ = false := (hb.frozen (p := ⟨w.heap.size + 1, 0, none⟩) (by simp; try omega)).trans (by simp)
      have c_R1_1 := cell_b (p := ⟨w.heap.size + 1, 1, none⟩) (v := .int .i64 0) (by simp) hb
      have f_R1_1 : w1.frozen? ⟨w.heap.size + 1, 1, none⟩ = false := (hb.frozen (p := ⟨w.heap.size + 1, 1, none⟩) (by simp; try omega)).trans (by simp)
      have c_R2_1 := cell_b (p := ⟨w.heap.size + 1, 2, none⟩) (v := .int .i64 0) (by simp) hb
      have f_R2_1 : w1.frozen? ⟨w.heap.size + 1, 2, none⟩ = false := (hb.frozen (p := ⟨w.heap.size + 1, 2, none⟩) (by simp; try omega)).trans (by simp)
      have c_R3_1 := cell_b (p := ⟨w.heap.size + 1, 3, none⟩) (v := .slice none 0 0) (by simp) hb
      have f_R3_1 : w1.frozen? ⟨w.heap.size + 1, 3, none⟩ = false := (hb.frozen (p := ⟨w.heap.size + 1, 3, none⟩) (by simp; try omega)).trans (by simp)
      have ac_A0_1 := fun o => cell_b c_A0_1 (below_alloc _ o)
      have ac_A1_1 := fun o => cell_b c_A1_1 (below_alloc _ o)
      have ac_A2_1 := fun o => cell_b c_A2_1 (below_alloc _ o)
      have ac_A3_1 := fun o => cell_b c_A3_1 (below_alloc _ o)
      have ac_R0_1 := fun o => cell_b c_R0_1 (below_alloc _ o)
      have ac_R1_1 := fun o => cell_b c_R1_1 (below_alloc _ o)
      have ac_R2_1 := fun o => cell_b c_R2_1 (below_alloc _ o)
      have ac_R3_1 := fun o => cell_b c_R3_1 (below_alloc _ o)
      have af_R0_1 := fun o => frz_b (cell_lt c_R0_1) f_R0_1 (below_alloc _ o)
      have af_R1_1 := fun o => frz_b (cell_lt c_R1_1) f_R1_1 (below_alloc _ o)
      have af_R2_1 := fun o => frz_b (cell_lt c_R2_1) f_R2_1 (below_alloc _ o)
      have af_R3_1 := fun o => frz_b (cell_lt c_R3_1) f_R3_1 (below_alloc _ o)
      clear hb D1 T0
      go_wp2_with fail
      refine (same_b (S_l2Value _ z)).mono ?_
      rintro e w2 ⟨rfl, hb⟩
      have D2 : Below w1.heap.size w1 w2 := hb
      have c_A0_2 := cell_b c_A0_1 D2
      have c_A1_2 := cell_b c_A1_1 D2
      have c_A2_2 := cell_b c_A2_1 D2
      have c_A3_2 := cell_b c_A3_1 D2
      have c_R0_2 := cell_b c_R0_1 D2
      have c_R1_2 := cell_b c_R1_1 D2
      have c_R2_2 := cell_b c_R2_1 D2
      have c_R3_2 := cell_b c_R3_1 D2
      have f_R0_2 := (D2.frozen (p := ⟨w.heap.size + 1, 0, none⟩) (World.block_lt_of_cell? _ _ c_R0_1)).trans f_R0_1
      have f_R1_2 := (D2.frozen (p := ⟨w.heap.size + 1, 1, none⟩) (World.block_lt_of_cell? _ _ c_R1_1)).trans f_R1_1
      have f_R2_2 := (D2.frozen (p := ⟨w.heap.size + 1, 2, none⟩) (World.block_lt_of_cell? _ _ c_R2_1)).trans f_R2_1
      have f_R3_2 := (D2.frozen (p := ⟨w.heap.size + 1, 3, none⟩) (World.block_lt_of_cell? _ _ c_R3_1)).trans f_R3_1
      have T2 := Lib.hid (below_trans T1.out D2)
      have z2 : w1.heap.size ≤ w2.heap.size := (by have := hb.size; (try simp at this); omega)
      have ac_A0_2 := fun o => cell_b c_A0_2 (below_alloc _ o)
      have ac_A1_2 := fun o => cell_b c_A1_2 (below_alloc _ o)
      have ac_A2_2 := fun o => cell_b c_A2_2 (below_alloc _ o)
      have ac_A3_2 := fun o => cell_b c_A3_2 (below_alloc _ o)
      have ac_R0_2 := fun o => cell_b c_R0_2 (below_alloc _ o)
      have ac_R1_2 := fun o => cell_b c_R1_2 (below_alloc _ o)
      have ac_R2_2 := fun o => cell_b c_R2_2 (below_alloc _ o)
      have ac_R3_2 := fun o => cell_b c_R3_2 (below_alloc _ o)
      have af_R0_2 := fun o => frz_b (cell_lt c_R0_2) f_R0_2 (below_alloc _ o)
      have af_R1_2 := fun o => frz_b (cell_lt c_R1_2) f_R1_2 (below_alloc _ o)
      have af_R2_2 := fun o => frz_b (cell_lt c_R2_2) f_R2_2 (below_alloc _ o)
      have af_R3_2 := fun o => frz_b (cell_lt c_R3_2) f_R3_2 (below_alloc _ o)
      clear ac_A0_1 ac_A1_1 ac_A2_1 ac_A3_1 ac_R0_1 ac_R1_1 ac_R2_1 ac_R3_1 af_R0_1 af_R1_1 af_R2_1 af_R3_1 c_A0_1 c_A1_1 c_A2_1 c_A3_1 c_R0_1 c_R1_1 c_R2_1 c_R3_1 f_R0_1 f_R1_1 f_R2_1 f_R3_1 hb D2 T1
      go_wp2_with fail
      refine bodyPost_ret (v := .tuple #[.agg #[.int .i64 0, .int .i64 0, .int .i64 0, .slice none 0 0], .slice (some ⟨w2.heap.size, 0, none⟩) 0 0, .bool false]) (by simp [results, Try.results55, go_sem, ac_R0_2, ac_R1_2, ac_R2_2, ac_R3_2]) rfl ⟨_, _, _, _, rfl, ow_nil _ _, ?_, ne_nil _ _ _, (((((T2.out.alloc T2.out.size _)).setCell (by simp) _).setCell (by simp) _).setCell (by simp) _).setCell (by simp) _⟩
      refine own_base (b := w2.heap.size) ?_ (by omega)
      repeat (first | exact (ow_made w2 _ (Nat.le_refl _)) | refine ownsRow_setCell_below ?_ (by show _ + 1 < _; omega) _)
  · have hv' : runs s o k xs t = false := by simpa using hv
    clear hv
    have e0 : fin s o k xs t z = (0, 0, 0, [], false) := by simp [fin, hv']
    simp only [e0]
    clear e0
    go_enter Try.func55, Try.ntmps55
    have T0 := Lib.hid (Below.refl w.heap.size w)
    go_wp2_with fail
    refine (S_l2Runs _ s o k _ xs t (rd_alloc (rd_alloc (rd_below HR.out T0.out) _) _) (by omega)).mono ?_
    rintro e w1 ⟨rfl, hb⟩
    have D1 : Below w.heap.size w w1 := below_trans (below_alloc _ _) (below_trans (below_alloc _ _) (hb))
    have T1 := Lib.hid (below_trans T0.out D1)
    have z1 : w.heap.size + 2 ≤ w1.heap.size := (by have := hb.size; (try simp at this); omega)
    have c_A0_1 := cell_b (p := ⟨w.heap.size, 0, none⟩) (v := .int .i64 s) (by simp) hb
    have c_A1_1 := cell_b (p := ⟨w.heap.size, 1, none⟩) (v := .int .i64 o) (by simp) hb
    have c_A2_1 := cell_b (p := ⟨w.heap.size, 2, none⟩) (v := .int .i64 k) (by simp) hb
    have c_A3_1 := cell_b (p := ⟨w.heap.size, 3, none⟩) (v := .slice a xs.length cap) (by simp) hb
    have c_R0_1 := cell_b (p := ⟨w.heap.size + 1, 0, none⟩) (v := .int .i64 0) (by simp) hb
    have f_R0_1 : w1.frozen? ⟨w.heap.size + 1, 0, none⟩ = false := (hb.frozen (p := ⟨w.heap.size + 1, 0, none⟩) (by simp; try omega)).trans (by simp)
    have c_R1_1 := cell_b (p := ⟨w.heap.size + 1, 1, none⟩) (v := .int .i64 0) (by simp) hb
    have f_R1_1 : w1.frozen? ⟨w.heap.size + 1, 1, none⟩ = false := (hb.frozen (p := ⟨w.heap.size + 1, 1, none⟩) (by simp; try omega)).trans (by simp)
    have c_R2_1 := cell_b (p := ⟨w.heap.size + 1, 2, none⟩) (v := .int .i64 0) (by simp) hb
    have f_R2_1 : w1.frozen? ⟨w.heap.size + 1, 2, none⟩ = false := (hb.frozen (p := ⟨w.heap.size + 1, 2, none⟩) (by simp; try omega)).trans (by simp)
    have c_R3_1 := cell_b (p := ⟨w.heap.size + 1, 3, none⟩) (v := .slice none 0 0) (by simp) hb
    have f_R3_1 : w1.frozen? ⟨w.heap.size + 1, 3, none⟩ = false := (hb.frozen (p := ⟨w.heap.size + 1, 3, none⟩) (by simp; try omega)).trans (by simp)
    have ac_A0_1 := fun o => cell_b c_A0_1 (below_alloc _ o)
    have ac_A1_1 := fun o => cell_b c_A1_1 (below_alloc _ o)
    have ac_A2_1 := fun o => cell_b c_A2_1 (below_alloc _ o)
    have ac_A3_1 := fun o => cell_b c_A3_1 (below_alloc _ o)
    have ac_R0_1 := fun o => cell_b c_R0_1 (below_alloc _ o)
    have ac_R1_1 := fun o => cell_b c_R1_1 (below_alloc _ o)
    have ac_R2_1 := fun o => cell_b c_R2_1 (below_alloc _ o)
    have ac_R3_1 := fun o => cell_b c_R3_1 (below_alloc _ o)
    have af_R0_1 := fun o => frz_b (cell_lt c_R0_1) f_R0_1 (below_alloc _ o)
    have af_R1_1 := fun o => frz_b (cell_lt c_R1_1) f_R1_1 (below_alloc _ o)
    have af_R2_1 := fun o => frz_b (cell_lt c_R2_1) f_R2_1 (below_alloc _ o)
    have af_R3_1 := fun o => frz_b (cell_lt c_R3_1) f_R3_1 (below_alloc _ o)
    clear hb D1 T0
    go_wp2_with fail
    refine bodyPost_ret (v := .tuple #[.agg #[.int .i64 0, .int .i64 0, .int .i64 0, .slice none 0 0], .slice (some ⟨w1.heap.size, 0, none⟩) 0 0, .bool false]) (by simp [results, Try.results55, go_sem, ac_R0_1, ac_R1_1, ac_R2_1, ac_R3_1]) rfl ⟨_, _, _, _, rfl, ow_nil _ _, ?_, ne_nil _ _ _, (((((T1.out.alloc T1.out.size _)).setCell (by simp) _).setCell (by simp) _).setCell (by simp) _).setCell (by simp) _⟩
    refine own_base (b := w1.heap.size) ?_ (by omega)
    repeat (first | exact (ow_made w1 _ (Nat.le_refl _)) | refine ownsRow_setCell_below ?_ (by show _ + 1 < _; omega) _)
end Go.Proofs.Ytgdhbhgkfcgjdaa
