/- The law FnExactSemSame: the walk. -/
import Derived.Test.YtcbdpcalmafdiaaSem
import Derived.Deep.RegionHeld3
namespace Go.Proofs.Ytcbdpcalmafdiaa
open Go.RowKit
set_option maxHeartbeats 4000000 in
set_option maxRecDepth 100000 in
theorem W_FnExactSemSame (w : World) (p0 p1 : Int) (v : Value) (xs : List (Int × Int)) (q0 q1 : Int) (u : Value) (ys : List (Int × Int)) (hr : RdW w v xs) (hs : RdW w u ys) (hm : xs.length ≤ 9223372036854775807) (hm' : ys.length ≤ 9223372036854775807) :
    Calls Try.prog 3 #[.agg #[.int .i64 p0, .int .i64 p1, v], .agg #[.int .i64 q0, .int .i64 q1, u]] w fun e w' => e = .returned (.bool true) ∧ Below w.heap.size w w' := by
  have HR := Lib.hid hr
  have HS := Lib.hid hs
  obtain ⟨a, cap, rfl, hcap, hnc, hr⟩ := rdw_cells hr
  obtain ⟨b, cap', rfl, hcap', hnc', hs⟩ := rdw_cells hs
  clear hr hnc hs hnc'
  by_cases hbig : 1048576 < xs.length
  · go_enter Try.func3, Try.ntmps3
    go_wp2_with (go_at_call 7; refine (L_szSem_no _ _ _ _ _ _ _ (by omega) (by omega) hm).mono ?_; rintro e w1 ⟨rfl, hb1⟩)
    go_ret
    exact ⟨rfl, below_trans (below_alloc _ _) (below_trans (below_alloc _ _) hb1)⟩
  by_cases hbig' : 1048576 - (xs.length : Int) < ys.length
  · skip
    go_enter Try.func3, Try.ntmps3
    have T0 := Lib.hid (Below.refl w.heap.size w)
    go_wp2_with fail
    refine (L_szSem_ok _ _ _ _ _ _ _ (by omega) (by omega)).mono ?_
    rintro e w1 ⟨rfl, hb⟩
    have D1 : Below w.heap.size w w1 := below_trans (below_alloc _ _) (below_trans (below_alloc _ _) (hb))
    have T1 := Lib.hid (below_trans T0.out D1)
    have z1 : w.heap.size + 2 ≤ w1.heap.size := (by have := hb.size; (try simp at this); omega)
    have c_aA0_1 := cell_b (p := ⟨w.heap.size, 0, none⟩) (v := .int .i64 p0) (by simp) hb
    have c_aA1_1 := cell_b (p := ⟨w.heap.size, 1, none⟩) (v := .int .i64 p1) (by simp) hb
    have c_aA2_1 := cell_b (p := ⟨w.heap.size, 2, none⟩) (v := .slice a xs.length cap) (by simp) hb
    have c_aB0_1 := cell_b (p := ⟨w.heap.size + 1, 0, none⟩) (v := .int .i64 q0) (by simp) hb
    have c_aB1_1 := cell_b (p := ⟨w.heap.size + 1, 1, none⟩) (v := .int .i64 q1) (by simp) hb
    have c_aB2_1 := cell_b (p := ⟨w.heap.size + 1, 2, none⟩) (v := .slice b ys.length cap') (by simp) hb
    have ac_aA0_1 := fun o => cell_b c_aA0_1 (below_alloc _ o)
    have bc_aA0_1 := fun o o1 => cell_b (ac_aA0_1 o) (below_alloc _ o1)
    have ac_aA1_1 := fun o => cell_b c_aA1_1 (below_alloc _ o)
    have bc_aA1_1 := fun o o1 => cell_b (ac_aA1_1 o) (below_alloc _ o1)
    have ac_aA2_1 := fun o => cell_b c_aA2_1 (below_alloc _ o)
    have bc_aA2_1 := fun o o1 => cell_b (ac_aA2_1 o) (below_alloc _ o1)
    have ac_aB0_1 := fun o => cell_b c_aB0_1 (below_alloc _ o)
    have bc_aB0_1 := fun o o1 => cell_b (ac_aB0_1 o) (below_alloc _ o1)
    have ac_aB1_1 := fun o => cell_b c_aB1_1 (below_alloc _ o)
    have bc_aB1_1 := fun o o1 => cell_b (ac_aB1_1 o) (below_alloc _ o1)
    have ac_aB2_1 := fun o => cell_b c_aB2_1 (below_alloc _ o)
    have bc_aB2_1 := fun o o1 => cell_b (ac_aB2_1 o) (below_alloc _ o1)
    clear hb D1 T0
    go_wp2_with fail
    refine (L_szSem_no _ _ _ _ _ _ _ (by omega) (by omega) hm').mono ?_
    rintro e w2 ⟨rfl, hb⟩
    have D2 : Below w1.heap.size w1 w2 := hb
    have c_aA0_2 := cell_b c_aA0_1 D2
    have c_aA1_2 := cell_b c_aA1_1 D2
    have c_aA2_2 := cell_b c_aA2_1 D2
    have c_aB0_2 := cell_b c_aB0_1 D2
    have c_aB1_2 := cell_b c_aB1_1 D2
    have c_aB2_2 := cell_b c_aB2_1 D2
    have T2 := Lib.hid (below_trans T1.out D2)
    have z2 : w1.heap.size ≤ w2.heap.size := (by have := hb.size; (try simp at this); omega)
    have ac_aA0_2 := fun o => cell_b c_aA0_2 (below_alloc _ o)
    have bc_aA0_2 := fun o o1 => cell_b (ac_aA0_2 o) (below_alloc _ o1)
    have ac_aA1_2 := fun o => cell_b c_aA1_2 (below_alloc _ o)
    have bc_aA1_2 := fun o o1 => cell_b (ac_aA1_2 o) (below_alloc _ o1)
    have ac_aA2_2 := fun o => cell_b c_aA2_2 (below_alloc _ o)
    have bc_aA2_2 := fun o o1 => cell_b (ac_aA2_2 o) (below_alloc _ o1)
    have ac_aB0_2 := fun o => cell_b c_aB0_2 (below_alloc _ o)
    have bc_aB0_2 := fun o o1 => cell_b (ac_aB0_2 o) (below_alloc _ o1)
    have ac_aB1_2 := fun o => cell_b c_aB1_2 (below_alloc _ o)
    have bc_aB1_2 := fun o o1 => cell_b (ac_aB1_2 o) (below_alloc _ o1)
    have ac_aB2_2 := fun o => cell_b c_aB2_2 (below_alloc _ o)
    have bc_aB2_2 := fun o o1 => cell_b (ac_aB2_2 o) (below_alloc _ o1)
    clear ac_aA0_1 bc_aA0_1 ac_aA1_1 bc_aA1_1 ac_aA2_1 bc_aA2_1 ac_aB0_1 bc_aB0_1 ac_aB1_1 bc_aB1_1 ac_aB2_1 bc_aB2_1 c_aA0_1 c_aA1_1 c_aA2_1 c_aB0_1 c_aB1_1 c_aB2_1 hb D2 T1
    go_wp2_with fail
    go_ret
    exact ⟨rfl, T2.out⟩
  · skip
    go_enter Try.func3, Try.ntmps3
    have T0 := Lib.hid (Below.refl w.heap.size w)
    go_wp2_with fail
    refine (L_szSem_ok _ _ _ _ _ _ _ (by omega) (by omega)).mono ?_
    rintro e w1 ⟨rfl, hb⟩
    have D1 : Below w.heap.size w w1 := below_trans (below_alloc _ _) (below_trans (below_alloc _ _) (hb))
    have T1 := Lib.hid (below_trans T0.out D1)
    have z1 : w.heap.size + 2 ≤ w1.heap.size := (by have := hb.size; (try simp at this); omega)
    have c_aA0_1 := cell_b (p := ⟨w.heap.size, 0, none⟩) (v := .int .i64 p0) (by simp) hb
    have c_aA1_1 := cell_b (p := ⟨w.heap.size, 1, none⟩) (v := .int .i64 p1) (by simp) hb
    have c_aA2_1 := cell_b (p := ⟨w.heap.size, 2, none⟩) (v := .slice a xs.length cap) (by simp) hb
    have c_aB0_1 := cell_b (p := ⟨w.heap.size + 1, 0, none⟩) (v := .int .i64 q0) (by simp) hb
    have c_aB1_1 := cell_b (p := ⟨w.heap.size + 1, 1, none⟩) (v := .int .i64 q1) (by simp) hb
    have c_aB2_1 := cell_b (p := ⟨w.heap.size + 1, 2, none⟩) (v := .slice b ys.length cap') (by simp) hb
    have ac_aA0_1 := fun o => cell_b c_aA0_1 (below_alloc _ o)
    have bc_aA0_1 := fun o o1 => cell_b (ac_aA0_1 o) (below_alloc _ o1)
    have ac_aA1_1 := fun o => cell_b c_aA1_1 (below_alloc _ o)
    have bc_aA1_1 := fun o o1 => cell_b (ac_aA1_1 o) (below_alloc _ o1)
    have ac_aA2_1 := fun o => cell_b c_aA2_1 (below_alloc _ o)
    have bc_aA2_1 := fun o o1 => cell_b (ac_aA2_1 o) (below_alloc _ o1)
    have ac_aB0_1 := fun o => cell_b c_aB0_1 (below_alloc _ o)
    have bc_aB0_1 := fun o o1 => cell_b (ac_aB0_1 o) (below_alloc _ o1)
    have ac_aB1_1 := fun o => cell_b c_aB1_1 (below_alloc _ o)
    have bc_aB1_1 := fun o o1 => cell_b (ac_aB1_1 o) (below_alloc _ o1)
    have ac_aB2_1 := fun o => cell_b c_aB2_1 (below_alloc _ o)
    have bc_aB2_1 := fun o o1 => cell_b (ac_aB2_1 o) (below_alloc _ o1)
    clear hb D1 T0
    go_wp2_with fail
    refine (L_szSem_ok _ _ _ _ _ _ _ (by omega) (by omega)).mono ?_
    rintro e w2 ⟨rfl, hb⟩
    have D2 : Below w1.heap.size w1 w2 := hb
    have c_aA0_2 := cell_b c_aA0_1 D2
    have c_aA1_2 := cell_b c_aA1_1 D2
    have c_aA2_2 := cell_b c_aA2_1 D2
    have c_aB0_2 := cell_b c_aB0_1 D2
    have c_aB1_2 := cell_b c_aB1_1 D2
    have c_aB2_2 := cell_b c_aB2_1 D2
    have T2 := Lib.hid (below_trans T1.out D2)
    have z2 : w1.heap.size ≤ w2.heap.size := (by have := hb.size; (try simp at this); omega)
    have ac_aA0_2 := fun o => cell_b c_aA0_2 (below_alloc _ o)
    have bc_aA0_2 := fun o o1 => cell_b (ac_aA0_2 o) (below_alloc _ o1)
    have ac_aA1_2 := fun o => cell_b c_aA1_2 (below_alloc _ o)
    have bc_aA1_2 := fun o o1 => cell_b (ac_aA1_2 o) (below_alloc _ o1)
    have ac_aA2_2 := fun o => cell_b c_aA2_2 (below_alloc _ o)
    have bc_aA2_2 := fun o o1 => cell_b (ac_aA2_2 o) (below_alloc _ o1)
    have ac_aB0_2 := fun o => cell_b c_aB0_2 (below_alloc _ o)
    have bc_aB0_2 := fun o o1 => cell_b (ac_aB0_2 o) (below_alloc _ o1)
    have ac_aB1_2 := fun o => cell_b c_aB1_2 (below_alloc _ o)
    have bc_aB1_2 := fun o o1 => cell_b (ac_aB1_2 o) (below_alloc _ o1)
    have ac_aB2_2 := fun o => cell_b c_aB2_2 (below_alloc _ o)
    have bc_aB2_2 := fun o o1 => cell_b (ac_aB2_2 o) (below_alloc _ o1)
    clear ac_aA0_1 bc_aA0_1 ac_aA1_1 bc_aA1_1 ac_aA2_1 bc_aA2_1 ac_aB0_1 bc_aB0_1 ac_aB1_1 bc_aB1_1 ac_aB2_1 bc_aB2_1 c_aA0_1 c_aA1_1 c_aA2_1 c_aB0_1 c_aB1_1 c_aB2_1 hb D2 T1
    go_wp2_with fail
    go_region_held3 (fun w' => w'.cell? ⟨w.heap.size, 0, none⟩ = some (.int .i64 p0) ∧ w'.cell? ⟨w.heap.size, 1, none⟩ = some (.int .i64 p1) ∧ w'.cell? ⟨w.heap.size, 2, none⟩ = some (.slice a xs.length cap) ∧ w'.cell? ⟨w.heap.size + 1, 0, none⟩ = some (.int .i64 q0) ∧ w'.cell? ⟨w.heap.size + 1, 1, none⟩ = some (.int .i64 q1) ∧ w'.cell? ⟨w.heap.size + 1, 2, none⟩ = some (.slice b ys.length cap')) (first | exact ⟨c_aA0_2, c_aA1_2, c_aA2_2, c_aB0_2, c_aB1_2, c_aB2_2⟩ | exact ⟨c_aA0_3, c_aA1_3, c_aA2_3, c_aB0_3, c_aB1_3, c_aB2_3⟩ | exact ⟨c_aA0_4, c_aA1_4, c_aA2_4, c_aB0_4, c_aB1_4, c_aB2_4⟩ | exact ⟨c_aA0_5, c_aA1_5, c_aA2_5, c_aB0_5, c_aB1_5, c_aB2_5⟩)
      (first | (go_at_call 9; refine (L_toSem _ _ _ _ xs (rdx_drew (rdx_b HR.out T2.out)) (by omega)).mono ?_; rintro e w3 ⟨a1, c1, rfl, hsa, hb⟩; have D3 : Below w2.heap.size w2 w3 := below_trans (drew_below _) (hb); have c_aA0_3 := cell_b c_aA0_2 D3; have c_aA1_3 := cell_b c_aA1_2 D3; have c_aA2_3 := cell_b c_aA2_2 D3; have c_aB0_3 := cell_b c_aB0_2 D3; have c_aB1_3 := cell_b c_aB1_2 D3; have c_aB2_3 := cell_b c_aB2_2 D3; have T3 := Lib.hid (below_trans T2.out D3); have z3 : w2.heap.size ≤ w3.heap.size := (by have := hb.size; (try simp at this); omega); have o_sa_3 := Lib.hid (own_base hsa (show w2.heap.size ≤ _ by simp; try omega)); have lo_sa := Lib.hid (own_lo o_sa_3.out); have hi_sa := Lib.hid (own_hi o_sa_3.out); have ac_aA0_3 := fun o => cell_b c_aA0_3 (below_alloc _ o); have bc_aA0_3 := fun o o1 => cell_b (ac_aA0_3 o) (below_alloc _ o1); have ac_aA1_3 := fun o => cell_b c_aA1_3 (below_alloc _ o); have bc_aA1_3 := fun o o1 => cell_b (ac_aA1_3 o) (below_alloc _ o1); have ac_aA2_3 := fun o => cell_b c_aA2_3 (below_alloc _ o); have bc_aA2_3 := fun o o1 => cell_b (ac_aA2_3 o) (below_alloc _ o1); have ac_aB0_3 := fun o => cell_b c_aB0_3 (below_alloc _ o); have bc_aB0_3 := fun o o1 => cell_b (ac_aB0_3 o) (below_alloc _ o1); have ac_aB1_3 := fun o => cell_b c_aB1_3 (below_alloc _ o); have bc_aB1_3 := fun o o1 => cell_b (ac_aB1_3 o) (below_alloc _ o1); have ac_aB2_3 := fun o => cell_b c_aB2_3 (below_alloc _ o); have bc_aB2_3 := fun o o1 => cell_b (ac_aB2_3 o) (below_alloc _ o1); clear ac_aA0_2 bc_aA0_2 ac_aA1_2 bc_aA1_2 ac_aA2_2 bc_aA2_2 ac_aB0_2 bc_aB0_2 ac_aB1_2 bc_aB1_2 ac_aB2_2 bc_aB2_2 c_aA0_2 c_aA1_2 c_aA2_2 c_aB0_2 c_aB1_2 c_aB2_2 hb D3 hsa T2) | (go_at_call 9; refine (L_toSem _ _ _ _ ys (rdx_b HS.out T3.out) (by omega)).mono ?_; rintro e w4 ⟨a2, c2, rfl, hsb, hb⟩; have D4 : Below w3.heap.size w3 w4 := hb; have c_aA0_4 := cell_b c_aA0_3 D4; have c_aA1_4 := cell_b c_aA1_3 D4; have c_aA2_4 := cell_b c_aA2_3 D4; have c_aB0_4 := cell_b c_aB0_3 D4; have c_aB1_4 := cell_b c_aB1_3 D4; have c_aB2_4 := cell_b c_aB2_3 D4; have o_sa_4 := Lib.hid (own_below o_sa_3.out D4); have T4 := Lib.hid (below_trans T3.out D4); have z4 : w3.heap.size ≤ w4.heap.size := (by have := hb.size; (try simp at this); omega); have o_sb_4 := Lib.hid (own_base hsb (show w3.heap.size ≤ _ by simp; try omega)); have lo_sb := Lib.hid (own_lo o_sb_4.out); have hi_sb := Lib.hid (own_hi o_sb_4.out); have ac_aA0_4 := fun o => cell_b c_aA0_4 (below_alloc _ o); have bc_aA0_4 := fun o o1 => cell_b (ac_aA0_4 o) (below_alloc _ o1); have ac_aA1_4 := fun o => cell_b c_aA1_4 (below_alloc _ o); have bc_aA1_4 := fun o o1 => cell_b (ac_aA1_4 o) (below_alloc _ o1); have ac_aA2_4 := fun o => cell_b c_aA2_4 (below_alloc _ o); have bc_aA2_4 := fun o o1 => cell_b (ac_aA2_4 o) (below_alloc _ o1); have ac_aB0_4 := fun o => cell_b c_aB0_4 (below_alloc _ o); have bc_aB0_4 := fun o o1 => cell_b (ac_aB0_4 o) (below_alloc _ o1); have ac_aB1_4 := fun o => cell_b c_aB1_4 (below_alloc _ o); have bc_aB1_4 := fun o o1 => cell_b (ac_aB1_4 o) (below_alloc _ o1); have ac_aB2_4 := fun o => cell_b c_aB2_4 (below_alloc _ o); have bc_aB2_4 := fun o o1 => cell_b (ac_aB2_4 o) (below_alloc _ o1); clear ac_aA0_3 bc_aA0_3 ac_aA1_3 bc_aA1_3 ac_aA2_3 bc_aA2_3 ac_aB0_3 bc_aB0_3 ac_aB1_3 bc_aB1_3 ac_aB2_3 bc_aB2_3 c_aA0_3 c_aA1_3 c_aA2_3 c_aB0_3 c_aB1_3 c_aB2_3 o_sa_3 hb D4 hsb T3) | (go_at_call 8; refine (S_SemSame _ _ _ _ _ _ xs _ ys (own_rdx o_sa_4.out) (own_rdx o_sb_4.out) (by omega) (by omega)).mono ?_; rintro e w5 ⟨rfl, hb⟩; have D5 : Below w4.heap.size w4 w5 := hb; have c_aA0_5 := cell_b c_aA0_4 D5; have c_aA1_5 := cell_b c_aA1_4 D5; have c_aA2_5 := cell_b c_aA2_4 D5; have c_aB0_5 := cell_b c_aB0_4 D5; have c_aB1_5 := cell_b c_aB1_4 D5; have c_aB2_5 := cell_b c_aB2_4 D5; have o_sa_5 := Lib.hid (own_below o_sa_4.out D5); have o_sb_5 := Lib.hid (own_below o_sb_4.out D5); have T5 := Lib.hid (below_trans T4.out D5); have z5 : w4.heap.size ≤ w5.heap.size := (by have := hb.size; (try simp at this); omega); have ac_aA0_5 := fun o => cell_b c_aA0_5 (below_alloc _ o); have bc_aA0_5 := fun o o1 => cell_b (ac_aA0_5 o) (below_alloc _ o1); have ac_aA1_5 := fun o => cell_b c_aA1_5 (below_alloc _ o); have bc_aA1_5 := fun o o1 => cell_b (ac_aA1_5 o) (below_alloc _ o1); have ac_aA2_5 := fun o => cell_b c_aA2_5 (below_alloc _ o); have bc_aA2_5 := fun o o1 => cell_b (ac_aA2_5 o) (below_alloc _ o1); have ac_aB0_5 := fun o => cell_b c_aB0_5 (below_alloc _ o); have bc_aB0_5 := fun o o1 => cell_b (ac_aB0_5 o) (below_alloc _ o1); have ac_aB1_5 := fun o => cell_b c_aB1_5 (below_alloc _ o); have bc_aB1_5 := fun o o1 => cell_b (ac_aB1_5 o) (below_alloc _ o1); have ac_aB2_5 := fun o => cell_b c_aB2_5 (below_alloc _ o); have bc_aB2_5 := fun o o1 => cell_b (ac_aB2_5 o) (below_alloc _ o1); clear ac_aA0_4 bc_aA0_4 ac_aA1_4 bc_aA1_4 ac_aA2_4 bc_aA2_4 ac_aB0_4 bc_aB0_4 ac_aB1_4 bc_aB1_4 ac_aB2_4 bc_aB2_4 c_aA0_4 c_aA1_4 c_aA2_4 c_aB0_4 c_aB1_4 c_aB2_4 o_sa_4 o_sb_4 hb D5 T4))
    clear o_sa_5 o_sb_5
    go_wp2_with fail
    refine (L_toSem _ _ _ _ xs (rdx_b HR.out T5.out) (by omega)).mono ?_
    rintro e w6 ⟨ax, cx, rfl, hx, hb⟩
    have D6 : Below w5.heap.size w5 w6 := hb
    have c_aA0_6 := cell_b c_aA0_5 D6
    have c_aA1_6 := cell_b c_aA1_5 D6
    have c_aA2_6 := cell_b c_aA2_5 D6
    have c_aB0_6 := cell_b c_aB0_5 D6
    have c_aB1_6 := cell_b c_aB1_5 D6
    have c_aB2_6 := cell_b c_aB2_5 D6
    have T6 := Lib.hid (below_trans T5.out D6)
    have z6 : w5.heap.size ≤ w6.heap.size := (by have := hb.size; (try simp at this); omega)
    have o_x_6 := Lib.hid (own_base hx (show w5.heap.size ≤ _ by simp; try omega))
    have lo_x := Lib.hid (own_lo o_x_6.out)
    have hi_x := Lib.hid (own_hi o_x_6.out)
    have ac_aA0_6 := fun o => cell_b c_aA0_6 (below_alloc _ o)
    have bc_aA0_6 := fun o o1 => cell_b (ac_aA0_6 o) (below_alloc _ o1)
    have ac_aA1_6 := fun o => cell_b c_aA1_6 (below_alloc _ o)
    have bc_aA1_6 := fun o o1 => cell_b (ac_aA1_6 o) (below_alloc _ o1)
    have ac_aA2_6 := fun o => cell_b c_aA2_6 (below_alloc _ o)
    have bc_aA2_6 := fun o o1 => cell_b (ac_aA2_6 o) (below_alloc _ o1)
    have ac_aB0_6 := fun o => cell_b c_aB0_6 (below_alloc _ o)
    have bc_aB0_6 := fun o o1 => cell_b (ac_aB0_6 o) (below_alloc _ o1)
    have ac_aB1_6 := fun o => cell_b c_aB1_6 (below_alloc _ o)
    have bc_aB1_6 := fun o o1 => cell_b (ac_aB1_6 o) (below_alloc _ o1)
    have ac_aB2_6 := fun o => cell_b c_aB2_6 (below_alloc _ o)
    have bc_aB2_6 := fun o o1 => cell_b (ac_aB2_6 o) (below_alloc _ o1)
    clear ac_aA0_5 bc_aA0_5 ac_aA1_5 bc_aA1_5 ac_aA2_5 bc_aA2_5 ac_aB0_5 bc_aB0_5 ac_aB1_5 bc_aB1_5 ac_aB2_5 bc_aB2_5 c_aA0_5 c_aA1_5 c_aA2_5 c_aB0_5 c_aB1_5 c_aB2_5 hb D6 hx T5
    go_wp2_with fail
    refine (L_toSem _ _ _ _ ys (rdx_alloc (rdx_b HS.out T6.out) _) (by omega)).mono ?_
    rintro e w7 ⟨ay, cy, rfl, hy, hb⟩
    have D7 : Below w6.heap.size w6 w7 := below_trans (below_alloc _ _) (hb)
    have c_aA0_7 := cell_b c_aA0_6 D7
    have c_aA1_7 := cell_b c_aA1_6 D7
    have c_aA2_7 := cell_b c_aA2_6 D7
    have c_aB0_7 := cell_b c_aB0_6 D7
    have c_aB1_7 := cell_b c_aB1_6 D7
    have c_aB2_7 := cell_b c_aB2_6 D7
    have o_x_7 := Lib.hid (own_below o_x_6.out D7)
    have T7 := Lib.hid (below_trans T6.out D7)
    have z7 : w6.heap.size + 1 ≤ w7.heap.size := (by have := hb.size; (try simp at this); omega)
    have c_x00_7 := cell_b (p := ⟨w6.heap.size, 0, none⟩) (v := .int .i64 p0) (by simp) hb
    have c_x01_7 := cell_b (p := ⟨w6.heap.size, 1, none⟩) (v := .int .i64 p1) (by simp) hb
    have c_x02_7 := cell_b (p := ⟨w6.heap.size, 2, none⟩) (v := .slice ax xs.length cx) (by simp) hb
    have o_y_7 := Lib.hid (own_base hy (show w6.heap.size + 1 ≤ _ by simp; try omega))
    have lo_y := Lib.hid (own_lo o_y_7.out)
    have hi_y := Lib.hid (own_hi o_y_7.out)
    have ac_aA0_7 := fun o => cell_b c_aA0_7 (below_alloc _ o)
    have bc_aA0_7 := fun o o1 => cell_b (ac_aA0_7 o) (below_alloc _ o1)
    have ac_aA1_7 := fun o => cell_b c_aA1_7 (below_alloc _ o)
    have bc_aA1_7 := fun o o1 => cell_b (ac_aA1_7 o) (below_alloc _ o1)
    have ac_aA2_7 := fun o => cell_b c_aA2_7 (below_alloc _ o)
    have bc_aA2_7 := fun o o1 => cell_b (ac_aA2_7 o) (below_alloc _ o1)
    have ac_aB0_7 := fun o => cell_b c_aB0_7 (below_alloc _ o)
    have bc_aB0_7 := fun o o1 => cell_b (ac_aB0_7 o) (below_alloc _ o1)
    have ac_aB1_7 := fun o => cell_b c_aB1_7 (below_alloc _ o)
    have bc_aB1_7 := fun o o1 => cell_b (ac_aB1_7 o) (below_alloc _ o1)
    have ac_aB2_7 := fun o => cell_b c_aB2_7 (below_alloc _ o)
    have bc_aB2_7 := fun o o1 => cell_b (ac_aB2_7 o) (below_alloc _ o1)
    have ac_x00_7 := fun o => cell_b c_x00_7 (below_alloc _ o)
    have bc_x00_7 := fun o o1 => cell_b (ac_x00_7 o) (below_alloc _ o1)
    have ac_x01_7 := fun o => cell_b c_x01_7 (below_alloc _ o)
    have bc_x01_7 := fun o o1 => cell_b (ac_x01_7 o) (below_alloc _ o1)
    have ac_x02_7 := fun o => cell_b c_x02_7 (below_alloc _ o)
    have bc_x02_7 := fun o o1 => cell_b (ac_x02_7 o) (below_alloc _ o1)
    clear ac_aA0_6 bc_aA0_6 ac_aA1_6 bc_aA1_6 ac_aA2_6 bc_aA2_6 ac_aB0_6 bc_aB0_6 ac_aB1_6 bc_aB1_6 ac_aB2_6 bc_aB2_6 c_aA0_6 c_aA1_6 c_aA2_6 c_aB0_6 c_aB1_6 c_aB2_6 o_x_6 hb D7 hy T6
    go_wp2_with fail
    refine (I_SemSame _ _ _ _ _ _ xs _ ys (rdx_alloc (own_rdx o_x_7.out) _) (rdx_alloc (own_rdx o_y_7.out) _) (by omega) (by omega)).mono ?_
    rintro e w8 ⟨rfl, hb⟩
    have D8 : Below w7.heap.size w7 w8 := below_trans (below_alloc _ _) (hb)
    have c_aA0_8 := cell_b c_aA0_7 D8
    have c_aA1_8 := cell_b c_aA1_7 D8
    have c_aA2_8 := cell_b c_aA2_7 D8
    have c_aB0_8 := cell_b c_aB0_7 D8
    have c_aB1_8 := cell_b c_aB1_7 D8
    have c_aB2_8 := cell_b c_aB2_7 D8
    have c_x00_8 := cell_b c_x00_7 D8
    have c_x01_8 := cell_b c_x01_7 D8
    have c_x02_8 := cell_b c_x02_7 D8
    have o_x_8 := Lib.hid (own_below o_x_7.out D8)
    have o_y_8 := Lib.hid (own_below o_y_7.out D8)
    have T8 := Lib.hid (below_trans T7.out D8)
    have z8 : w7.heap.size + 1 ≤ w8.heap.size := (by have := hb.size; (try simp at this); omega)
    have c_x10_8 := cell_b (p := ⟨w7.heap.size, 0, none⟩) (v := .int .i64 q0) (by simp) hb
    have c_x11_8 := cell_b (p := ⟨w7.heap.size, 1, none⟩) (v := .int .i64 q1) (by simp) hb
    have c_x12_8 := cell_b (p := ⟨w7.heap.size, 2, none⟩) (v := .slice ay ys.length cy) (by simp) hb
    have ac_aA0_8 := fun o => cell_b c_aA0_8 (below_alloc _ o)
    have bc_aA0_8 := fun o o1 => cell_b (ac_aA0_8 o) (below_alloc _ o1)
    have ac_aA1_8 := fun o => cell_b c_aA1_8 (below_alloc _ o)
    have bc_aA1_8 := fun o o1 => cell_b (ac_aA1_8 o) (below_alloc _ o1)
    have ac_aA2_8 := fun o => cell_b c_aA2_8 (below_alloc _ o)
    have bc_aA2_8 := fun o o1 => cell_b (ac_aA2_8 o) (below_alloc _ o1)
    have ac_aB0_8 := fun o => cell_b c_aB0_8 (below_alloc _ o)
    have bc_aB0_8 := fun o o1 => cell_b (ac_aB0_8 o) (below_alloc _ o1)
    have ac_aB1_8 := fun o => cell_b c_aB1_8 (below_alloc _ o)
    have bc_aB1_8 := fun o o1 => cell_b (ac_aB1_8 o) (below_alloc _ o1)
    have ac_aB2_8 := fun o => cell_b c_aB2_8 (below_alloc _ o)
    have bc_aB2_8 := fun o o1 => cell_b (ac_aB2_8 o) (below_alloc _ o1)
    have ac_x00_8 := fun o => cell_b c_x00_8 (below_alloc _ o)
    have bc_x00_8 := fun o o1 => cell_b (ac_x00_8 o) (below_alloc _ o1)
    have ac_x01_8 := fun o => cell_b c_x01_8 (below_alloc _ o)
    have bc_x01_8 := fun o o1 => cell_b (ac_x01_8 o) (below_alloc _ o1)
    have ac_x02_8 := fun o => cell_b c_x02_8 (below_alloc _ o)
    have bc_x02_8 := fun o o1 => cell_b (ac_x02_8 o) (below_alloc _ o1)
    have ac_x10_8 := fun o => cell_b c_x10_8 (below_alloc _ o)
    have bc_x10_8 := fun o o1 => cell_b (ac_x10_8 o) (below_alloc _ o1)
    have ac_x11_8 := fun o => cell_b c_x11_8 (below_alloc _ o)
    have bc_x11_8 := fun o o1 => cell_b (ac_x11_8 o) (below_alloc _ o1)
    have ac_x12_8 := fun o => cell_b c_x12_8 (below_alloc _ o)
    have bc_x12_8 := fun o o1 => cell_b (ac_x12_8 o) (below_alloc _ o1)
    clear ac_aA0_7 bc_aA0_7 ac_aA1_7 bc_aA1_7 ac_aA2_7 bc_aA2_7 ac_aB0_7 bc_aB0_7 ac_aB1_7 bc_aB1_7 ac_aB2_7 bc_aB2_7 ac_x00_7 bc_x00_7 ac_x01_7 bc_x01_7 ac_x02_7 bc_x02_7 c_aA0_7 c_aA1_7 c_aA2_7 c_aB0_7 c_aB1_7 c_aB2_7 c_x00_7 c_x01_7 c_x02_7 o_x_7 o_y_7 hb D8 T7
    go_wp2_with fail
    go_region_held3 (fun w' => w'.cell? ⟨w6.heap.size, 0, none⟩ = some (.int .i64 p0) ∧ w'.cell? ⟨w6.heap.size, 1, none⟩ = some (.int .i64 p1) ∧ w'.cell? ⟨w6.heap.size, 2, none⟩ = some (.slice ax xs.length cx) ∧ w'.cell? ⟨w.heap.size, 0, none⟩ = some (.int .i64 p0) ∧ w'.cell? ⟨w.heap.size, 1, none⟩ = some (.int .i64 p1) ∧ w'.cell? ⟨w.heap.size, 2, none⟩ = some (.slice a xs.length cap)) (first | exact ⟨c_x00_8, c_x01_8, c_x02_8, c_aA0_8, c_aA1_8, c_aA2_8⟩ | exact ⟨c_x00_9, c_x01_9, c_x02_9, c_aA0_9, c_aA1_9, c_aA2_9⟩ | exact ⟨c_x00_10, c_x01_10, c_x02_10, c_aA0_10, c_aA1_10, c_aA2_10⟩)
      (first | (go_at_call 9; refine (L_toSem _ _ _ _ xs (rdx_drew (rdx_b HR.out T8.out)) (by omega)).mono ?_; rintro e w9 ⟨azp, czp, rfl, hzp, hb⟩; have D9 : Below w8.heap.size w8 w9 := below_trans (drew_below _) (hb); have c_aA0_9 := cell_b c_aA0_8 D9; have c_aA1_9 := cell_b c_aA1_8 D9; have c_aA2_9 := cell_b c_aA2_8 D9; have c_aB0_9 := cell_b c_aB0_8 D9; have c_aB1_9 := cell_b c_aB1_8 D9; have c_aB2_9 := cell_b c_aB2_8 D9; have c_x00_9 := cell_b c_x00_8 D9; have c_x01_9 := cell_b c_x01_8 D9; have c_x02_9 := cell_b c_x02_8 D9; have c_x10_9 := cell_b c_x10_8 D9; have c_x11_9 := cell_b c_x11_8 D9; have c_x12_9 := cell_b c_x12_8 D9; have o_x_9 := Lib.hid (own_below o_x_8.out D9); have o_y_9 := Lib.hid (own_below o_y_8.out D9); have T9 := Lib.hid (below_trans T8.out D9); have z9 : w8.heap.size ≤ w9.heap.size := (by have := hb.size; (try simp at this); omega); have o_zp_9 := Lib.hid (own_base hzp (show w8.heap.size ≤ _ by simp; try omega)); have lo_zp := Lib.hid (own_lo o_zp_9.out); have hi_zp := Lib.hid (own_hi o_zp_9.out); have ac_aA0_9 := fun o => cell_b c_aA0_9 (below_alloc _ o); have bc_aA0_9 := fun o o1 => cell_b (ac_aA0_9 o) (below_alloc _ o1); have ac_aA1_9 := fun o => cell_b c_aA1_9 (below_alloc _ o); have bc_aA1_9 := fun o o1 => cell_b (ac_aA1_9 o) (below_alloc _ o1); have ac_aA2_9 := fun o => cell_b c_aA2_9 (below_alloc _ o); have bc_aA2_9 := fun o o1 => cell_b (ac_aA2_9 o) (below_alloc _ o1); have ac_aB0_9 := fun o => cell_b c_aB0_9 (below_alloc _ o); have bc_aB0_9 := fun o o1 => cell_b (ac_aB0_9 o) (below_alloc _ o1); have ac_aB1_9 := fun o => cell_b c_aB1_9 (below_alloc _ o); have bc_aB1_9 := fun o o1 => cell_b (ac_aB1_9 o) (below_alloc _ o1); have ac_aB2_9 := fun o => cell_b c_aB2_9 (below_alloc _ o); have bc_aB2_9 := fun o o1 => cell_b (ac_aB2_9 o) (below_alloc _ o1); have ac_x00_9 := fun o => cell_b c_x00_9 (below_alloc _ o); have bc_x00_9 := fun o o1 => cell_b (ac_x00_9 o) (below_alloc _ o1); have ac_x01_9 := fun o => cell_b c_x01_9 (below_alloc _ o); have bc_x01_9 := fun o o1 => cell_b (ac_x01_9 o) (below_alloc _ o1); have ac_x02_9 := fun o => cell_b c_x02_9 (below_alloc _ o); have bc_x02_9 := fun o o1 => cell_b (ac_x02_9 o) (below_alloc _ o1); have ac_x10_9 := fun o => cell_b c_x10_9 (below_alloc _ o); have bc_x10_9 := fun o o1 => cell_b (ac_x10_9 o) (below_alloc _ o1); have ac_x11_9 := fun o => cell_b c_x11_9 (below_alloc _ o); have bc_x11_9 := fun o o1 => cell_b (ac_x11_9 o) (below_alloc _ o1); have ac_x12_9 := fun o => cell_b c_x12_9 (below_alloc _ o); have bc_x12_9 := fun o o1 => cell_b (ac_x12_9 o) (below_alloc _ o1); clear ac_aA0_8 bc_aA0_8 ac_aA1_8 bc_aA1_8 ac_aA2_8 bc_aA2_8 ac_aB0_8 bc_aB0_8 ac_aB1_8 bc_aB1_8 ac_aB2_8 bc_aB2_8 ac_x00_8 bc_x00_8 ac_x01_8 bc_x01_8 ac_x02_8 bc_x02_8 ac_x10_8 bc_x10_8 ac_x11_8 bc_x11_8 ac_x12_8 bc_x12_8 c_aA0_8 c_aA1_8 c_aA2_8 c_aB0_8 c_aB1_8 c_aB2_8 c_x00_8 c_x01_8 c_x02_8 c_x10_8 c_x11_8 c_x12_8 o_x_8 o_y_8 hb D9 hzp T8) | (go_at_call 11; refine (eqP_true (L_eqSem _ _ _ _ _ xs xs (own_rdx o_x_9.out) (own_rdx o_zp_9.out) (by first | omega | (simp; try omega)) (by first | omega | (simp; try omega)))).mono ?_; rintro e w10 ⟨rfl, hb⟩; have D10 : Below w9.heap.size w9 w10 := hb; have c_aA0_10 := cell_b c_aA0_9 D10; have c_aA1_10 := cell_b c_aA1_9 D10; have c_aA2_10 := cell_b c_aA2_9 D10; have c_aB0_10 := cell_b c_aB0_9 D10; have c_aB1_10 := cell_b c_aB1_9 D10; have c_aB2_10 := cell_b c_aB2_9 D10; have c_x00_10 := cell_b c_x00_9 D10; have c_x01_10 := cell_b c_x01_9 D10; have c_x02_10 := cell_b c_x02_9 D10; have c_x10_10 := cell_b c_x10_9 D10; have c_x11_10 := cell_b c_x11_9 D10; have c_x12_10 := cell_b c_x12_9 D10; have o_x_10 := Lib.hid (own_below o_x_9.out D10); have o_y_10 := Lib.hid (own_below o_y_9.out D10); have o_zp_10 := Lib.hid (own_below o_zp_9.out D10); have T10 := Lib.hid (below_trans T9.out D10); have z10 : w9.heap.size ≤ w10.heap.size := (by have := hb.size; (try simp at this); omega); have ac_aA0_10 := fun o => cell_b c_aA0_10 (below_alloc _ o); have bc_aA0_10 := fun o o1 => cell_b (ac_aA0_10 o) (below_alloc _ o1); have ac_aA1_10 := fun o => cell_b c_aA1_10 (below_alloc _ o); have bc_aA1_10 := fun o o1 => cell_b (ac_aA1_10 o) (below_alloc _ o1); have ac_aA2_10 := fun o => cell_b c_aA2_10 (below_alloc _ o); have bc_aA2_10 := fun o o1 => cell_b (ac_aA2_10 o) (below_alloc _ o1); have ac_aB0_10 := fun o => cell_b c_aB0_10 (below_alloc _ o); have bc_aB0_10 := fun o o1 => cell_b (ac_aB0_10 o) (below_alloc _ o1); have ac_aB1_10 := fun o => cell_b c_aB1_10 (below_alloc _ o); have bc_aB1_10 := fun o o1 => cell_b (ac_aB1_10 o) (below_alloc _ o1); have ac_aB2_10 := fun o => cell_b c_aB2_10 (below_alloc _ o); have bc_aB2_10 := fun o o1 => cell_b (ac_aB2_10 o) (below_alloc _ o1); have ac_x00_10 := fun o => cell_b c_x00_10 (below_alloc _ o); have bc_x00_10 := fun o o1 => cell_b (ac_x00_10 o) (below_alloc _ o1); have ac_x01_10 := fun o => cell_b c_x01_10 (below_alloc _ o); have bc_x01_10 := fun o o1 => cell_b (ac_x01_10 o) (below_alloc _ o1); have ac_x02_10 := fun o => cell_b c_x02_10 (below_alloc _ o); have bc_x02_10 := fun o o1 => cell_b (ac_x02_10 o) (below_alloc _ o1); have ac_x10_10 := fun o => cell_b c_x10_10 (below_alloc _ o); have bc_x10_10 := fun o o1 => cell_b (ac_x10_10 o) (below_alloc _ o1); have ac_x11_10 := fun o => cell_b c_x11_10 (below_alloc _ o); have bc_x11_10 := fun o o1 => cell_b (ac_x11_10 o) (below_alloc _ o1); have ac_x12_10 := fun o => cell_b c_x12_10 (below_alloc _ o); have bc_x12_10 := fun o o1 => cell_b (ac_x12_10 o) (below_alloc _ o1); clear ac_aA0_9 bc_aA0_9 ac_aA1_9 bc_aA1_9 ac_aA2_9 bc_aA2_9 ac_aB0_9 bc_aB0_9 ac_aB1_9 bc_aB1_9 ac_aB2_9 bc_aB2_9 ac_x00_9 bc_x00_9 ac_x01_9 bc_x01_9 ac_x02_9 bc_x02_9 ac_x10_9 bc_x10_9 ac_x11_9 bc_x11_9 ac_x12_9 bc_x12_9 c_aA0_9 c_aA1_9 c_aA2_9 c_aB0_9 c_aB1_9 c_aB2_9 c_x00_9 c_x01_9 c_x02_9 c_x10_9 c_x11_9 c_x12_9 o_x_9 o_y_9 o_zp_9 hb D10 T9))
    clear o_zp_10
    clear o_x_10 c_x00_10 c_x01_10 c_x02_10 ac_x00_10 bc_x00_10 ac_x01_10 bc_x01_10 ac_x02_10 bc_x02_10
    go_wp2_with fail
    go_region_held3 (fun w' => w'.cell? ⟨w7.heap.size, 0, none⟩ = some (.int .i64 q0) ∧ w'.cell? ⟨w7.heap.size, 1, none⟩ = some (.int .i64 q1) ∧ w'.cell? ⟨w7.heap.size, 2, none⟩ = some (.slice ay ys.length cy) ∧ w'.cell? ⟨w.heap.size + 1, 0, none⟩ = some (.int .i64 q0) ∧ w'.cell? ⟨w.heap.size + 1, 1, none⟩ = some (.int .i64 q1) ∧ w'.cell? ⟨w.heap.size + 1, 2, none⟩ = some (.slice b ys.length cap')) (first | exact ⟨c_x10_10, c_x11_10, c_x12_10, c_aB0_10, c_aB1_10, c_aB2_10⟩ | exact ⟨c_x10_11, c_x11_11, c_x12_11, c_aB0_11, c_aB1_11, c_aB2_11⟩ | exact ⟨c_x10_12, c_x11_12, c_x12_12, c_aB0_12, c_aB1_12, c_aB2_12⟩)
      (first | (go_at_call 9; refine (L_toSem _ _ _ _ ys (rdx_drew (rdx_b HS.out T10.out)) (by omega)).mono ?_; rintro e w11 ⟨azq, czq, rfl, hzq, hb⟩; have D11 : Below w10.heap.size w10 w11 := below_trans (drew_below _) (hb); have c_aA0_11 := cell_b c_aA0_10 D11; have c_aA1_11 := cell_b c_aA1_10 D11; have c_aA2_11 := cell_b c_aA2_10 D11; have c_aB0_11 := cell_b c_aB0_10 D11; have c_aB1_11 := cell_b c_aB1_10 D11; have c_aB2_11 := cell_b c_aB2_10 D11; have c_x10_11 := cell_b c_x10_10 D11; have c_x11_11 := cell_b c_x11_10 D11; have c_x12_11 := cell_b c_x12_10 D11; have o_y_11 := Lib.hid (own_below o_y_10.out D11); have T11 := Lib.hid (below_trans T10.out D11); have z11 : w10.heap.size ≤ w11.heap.size := (by have := hb.size; (try simp at this); omega); have o_zq_11 := Lib.hid (own_base hzq (show w10.heap.size ≤ _ by simp; try omega)); have lo_zq := Lib.hid (own_lo o_zq_11.out); have hi_zq := Lib.hid (own_hi o_zq_11.out); have ac_aA0_11 := fun o => cell_b c_aA0_11 (below_alloc _ o); have bc_aA0_11 := fun o o1 => cell_b (ac_aA0_11 o) (below_alloc _ o1); have ac_aA1_11 := fun o => cell_b c_aA1_11 (below_alloc _ o); have bc_aA1_11 := fun o o1 => cell_b (ac_aA1_11 o) (below_alloc _ o1); have ac_aA2_11 := fun o => cell_b c_aA2_11 (below_alloc _ o); have bc_aA2_11 := fun o o1 => cell_b (ac_aA2_11 o) (below_alloc _ o1); have ac_aB0_11 := fun o => cell_b c_aB0_11 (below_alloc _ o); have bc_aB0_11 := fun o o1 => cell_b (ac_aB0_11 o) (below_alloc _ o1); have ac_aB1_11 := fun o => cell_b c_aB1_11 (below_alloc _ o); have bc_aB1_11 := fun o o1 => cell_b (ac_aB1_11 o) (below_alloc _ o1); have ac_aB2_11 := fun o => cell_b c_aB2_11 (below_alloc _ o); have bc_aB2_11 := fun o o1 => cell_b (ac_aB2_11 o) (below_alloc _ o1); have ac_x10_11 := fun o => cell_b c_x10_11 (below_alloc _ o); have bc_x10_11 := fun o o1 => cell_b (ac_x10_11 o) (below_alloc _ o1); have ac_x11_11 := fun o => cell_b c_x11_11 (below_alloc _ o); have bc_x11_11 := fun o o1 => cell_b (ac_x11_11 o) (below_alloc _ o1); have ac_x12_11 := fun o => cell_b c_x12_11 (below_alloc _ o); have bc_x12_11 := fun o o1 => cell_b (ac_x12_11 o) (below_alloc _ o1); clear ac_aA0_10 bc_aA0_10 ac_aA1_10 bc_aA1_10 ac_aA2_10 bc_aA2_10 ac_aB0_10 bc_aB0_10 ac_aB1_10 bc_aB1_10 ac_aB2_10 bc_aB2_10 ac_x10_10 bc_x10_10 ac_x11_10 bc_x11_10 ac_x12_10 bc_x12_10 c_aA0_10 c_aA1_10 c_aA2_10 c_aB0_10 c_aB1_10 c_aB2_10 c_x10_10 c_x11_10 c_x12_10 o_y_10 hb D11 hzq T10) | (go_at_call 11; refine (eqP_true (L_eqSem _ _ _ _ _ ys ys (own_rdx o_y_11.out) (own_rdx o_zq_11.out) (by first | omega | (simp; try omega)) (by first | omega | (simp; try omega)))).mono ?_; rintro e w12 ⟨rfl, hb⟩; have D12 : Below w11.heap.size w11 w12 := hb; have c_aA0_12 := cell_b c_aA0_11 D12; have c_aA1_12 := cell_b c_aA1_11 D12; have c_aA2_12 := cell_b c_aA2_11 D12; have c_aB0_12 := cell_b c_aB0_11 D12; have c_aB1_12 := cell_b c_aB1_11 D12; have c_aB2_12 := cell_b c_aB2_11 D12; have c_x10_12 := cell_b c_x10_11 D12; have c_x11_12 := cell_b c_x11_11 D12; have c_x12_12 := cell_b c_x12_11 D12; have o_y_12 := Lib.hid (own_below o_y_11.out D12); have o_zq_12 := Lib.hid (own_below o_zq_11.out D12); have T12 := Lib.hid (below_trans T11.out D12); have z12 : w11.heap.size ≤ w12.heap.size := (by have := hb.size; (try simp at this); omega); have ac_aA0_12 := fun o => cell_b c_aA0_12 (below_alloc _ o); have bc_aA0_12 := fun o o1 => cell_b (ac_aA0_12 o) (below_alloc _ o1); have ac_aA1_12 := fun o => cell_b c_aA1_12 (below_alloc _ o); have bc_aA1_12 := fun o o1 => cell_b (ac_aA1_12 o) (below_alloc _ o1); have ac_aA2_12 := fun o => cell_b c_aA2_12 (below_alloc _ o); have bc_aA2_12 := fun o o1 => cell_b (ac_aA2_12 o) (below_alloc _ o1); have ac_aB0_12 := fun o => cell_b c_aB0_12 (below_alloc _ o); have bc_aB0_12 := fun o o1 => cell_b (ac_aB0_12 o) (below_alloc _ o1); have ac_aB1_12 := fun o => cell_b c_aB1_12 (below_alloc _ o); have bc_aB1_12 := fun o o1 => cell_b (ac_aB1_12 o) (below_alloc _ o1); have ac_aB2_12 := fun o => cell_b c_aB2_12 (below_alloc _ o); have bc_aB2_12 := fun o o1 => cell_b (ac_aB2_12 o) (below_alloc _ o1); have ac_x10_12 := fun o => cell_b c_x10_12 (below_alloc _ o); have bc_x10_12 := fun o o1 => cell_b (ac_x10_12 o) (below_alloc _ o1); have ac_x11_12 := fun o => cell_b c_x11_12 (below_alloc _ o); have bc_x11_12 := fun o o1 => cell_b (ac_x11_12 o) (below_alloc _ o1); have ac_x12_12 := fun o => cell_b c_x12_12 (below_alloc _ o); have bc_x12_12 := fun o o1 => cell_b (ac_x12_12 o) (below_alloc _ o1); clear ac_aA0_11 bc_aA0_11 ac_aA1_11 bc_aA1_11 ac_aA2_11 bc_aA2_11 ac_aB0_11 bc_aB0_11 ac_aB1_11 bc_aB1_11 ac_aB2_11 bc_aB2_11 ac_x10_11 bc_x10_11 ac_x11_11 bc_x11_11 ac_x12_11 bc_x12_11 c_aA0_11 c_aA1_11 c_aA2_11 c_aB0_11 c_aB1_11 c_aB2_11 c_x10_11 c_x11_11 c_x12_11 o_y_11 o_zq_11 hb D12 T11))
    clear o_zq_12
    go_wp2_with fail
    go_ret
    exact ⟨rfl, T12.out⟩
end Go.Proofs.Ytcbdpcalmafdiaa
