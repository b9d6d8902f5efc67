/- The law on NewBarrier: the walk. -/
import Derived.Test.YtaoeacclkekokaaBarrier
namespace Go.Proofs.Ytaoeacclkekokaa
open Go.RowKit
set_option maxHeartbeats 4000000 in
theorem W_FnExactNewBarrier (w : World) (n : Int) : Calls Try.prog 6 #[.int .i64 n] w fun e w' => e = .returned (.bool true) ∧ Below w.heap.size w w' := by
  go_enter Try.func6, Try.ntmps6
  have T0 := Lib.hid (Below.refl w.heap.size w)
  go_wp2_with fail
  refine (S_NewBarrier _ n).mono ?_
  rintro e w1 ⟨aW, cW, rfl, hW, hb⟩
  have D1 : Below w.heap.size w w1 := hb
  have T1 := Lib.hid (below_trans T0.out D1)
  have z1 : w.heap.size ≤ w1.heap.size := (by have := hb.size; (try simp at this); omega)
  have o_W_1 := Lib.hid (own_base hW (show w.heap.size ≤ _ by simp; try omega))
  have lo_W := Lib.hid (own_lo o_W_1.out)
  have hi_W := Lib.hid (own_hi o_W_1.out)
  clear hb D1 hW T0
  go_wp2_with fail
  refine (I_NewBarrier _ n).mono ?_
  rintro e w2 ⟨aG, cG, rfl, hG, hb⟩
  have D2 : Below w1.heap.size w1 w2 := below_trans (below_alloc _ _) (hb)
  have o_W_2 := Lib.hid (own_below o_W_1.out D2)
  have T2 := Lib.hid (below_trans T1.out D2)
  have z2 : w1.heap.size + 1 ≤ w2.heap.size := (by have := hb.size; (try simp at this); omega)
  have c_w00_2 := cell_b (p := ⟨w1.heap.size, 0, none⟩) (v := .int .i64 (nbP n)) (by simp) hb
  have c_w01_2 := cell_b (p := ⟨w1.heap.size, 1, none⟩) (v := .int .i64 0) (by simp) hb
  have c_w02_2 := cell_b (p := ⟨w1.heap.size, 2, none⟩) (v := .slice aW ([] : List Int).length cW) (by simp) hb
  have o_G_2 := Lib.hid (own_base hG (show w1.heap.size + 1 ≤ _ by simp; try omega))
  have lo_G := Lib.hid (own_lo o_G_2.out)
  have hi_G := Lib.hid (own_hi o_G_2.out)
  have ac_w00_2 := fun o => cell_b c_w00_2 (below_alloc _ o)
  have bc_w00_2 := fun o o1 => cell_b (ac_w00_2 o) (below_alloc _ o1)
  have ac_w01_2 := fun o => cell_b c_w01_2 (below_alloc _ o)
  have bc_w01_2 := fun o o1 => cell_b (ac_w01_2 o) (below_alloc _ o1)
  have ac_w02_2 := fun o => cell_b c_w02_2 (below_alloc _ o)
  have bc_w02_2 := fun o o1 => cell_b (ac_w02_2 o) (below_alloc _ o1)
  clear o_W_1 hb D2 hG T1
  go_wp2_with fail
  refine (eqB_true (L_eqBarrier _ _ _ _ _ [] [] (rd_alloc (own_rd o_G_2.out) _) (rd_alloc (own_rd o_W_2.out) _) (by simp) (by simp))).mono ?_
  rintro e w3 ⟨rfl, hb⟩
  have D3 : Below w2.heap.size w2 w3 := below_trans (below_alloc _ _) (hb)
  have c_w00_3 := cell_b c_w00_2 D3
  have c_w01_3 := cell_b c_w01_2 D3
  have c_w02_3 := cell_b c_w02_2 D3
  have o_W_3 := Lib.hid (own_below o_W_2.out D3)
  have o_G_3 := Lib.hid (own_below o_G_2.out D3)
  have T3 := Lib.hid (below_trans T2.out D3)
  have z3 : w2.heap.size + 1 ≤ w3.heap.size := (by have := hb.size; (try simp at this); omega)
  have c_g00_3 := cell_b (p := ⟨w2.heap.size, 0, none⟩) (v := .int .i64 (nbP n)) (by simp) hb
  have c_g01_3 := cell_b (p := ⟨w2.heap.size, 1, none⟩) (v := .int .i64 0) (by simp) hb
  have c_g02_3 := cell_b (p := ⟨w2.heap.size, 2, none⟩) (v := .slice aG ([] : List Int).length cG) (by simp) hb
  have ac_w00_3 := fun o => cell_b c_w00_3 (below_alloc _ o)
  have bc_w00_3 := fun o o1 => cell_b (ac_w00_3 o) (below_alloc _ o1)
  have ac_w01_3 := fun o => cell_b c_w01_3 (below_alloc _ o)
  have bc_w01_3 := fun o o1 => cell_b (ac_w01_3 o) (below_alloc _ o1)
  have ac_w02_3 := fun o => cell_b c_w02_3 (below_alloc _ o)
  have bc_w02_3 := fun o o1 => cell_b (ac_w02_3 o) (below_alloc _ o1)
  have ac_g00_3 := fun o => cell_b c_g00_3 (below_alloc _ o)
  have bc_g00_3 := fun o o1 => cell_b (ac_g00_3 o) (below_alloc _ o1)
  have ac_g01_3 := fun o => cell_b c_g01_3 (below_alloc _ o)
  have bc_g01_3 := fun o o1 => cell_b (ac_g01_3 o) (below_alloc _ o1)
  have ac_g02_3 := fun o => cell_b c_g02_3 (below_alloc _ o)
  have bc_g02_3 := fun o o1 => cell_b (ac_g02_3 o) (below_alloc _ o1)
  clear ac_w00_2 bc_w00_2 ac_w01_2 bc_w01_2 ac_w02_2 bc_w02_2 c_w00_2 c_w01_2 c_w02_2 o_W_2 o_G_2 hb D3 T2
  go_wp2_with fail
  refine (L_markBarrier _ _ _ _ _ [] _ o_G_3.out (by simp) (by omega) (by omega)).mono ?_
  rintro e w4 ⟨rfl, ho, hg⟩
  have c_w00_4 := cell_gr c_w00_3 hg (fun g h => by have h1 := lo_G.out g h; have h2 := hi_G.out g h; show w1.heap.size ≠ g; omega)
  have c_w01_4 := cell_gr c_w01_3 hg (fun g h => by have h1 := lo_G.out g h; have h2 := hi_G.out g h; show w1.heap.size ≠ g; omega)
  have c_w02_4 := cell_gr c_w02_3 hg (fun g h => by have h1 := lo_G.out g h; have h2 := hi_G.out g h; show w1.heap.size ≠ g; omega)
  have c_g00_4 := cell_gr c_g00_3 hg (fun g h => by have h1 := lo_G.out g h; have h2 := hi_G.out g h; show w2.heap.size ≠ g; omega)
  have c_g01_4 := cell_gr c_g01_3 hg (fun g h => by have h1 := lo_G.out g h; have h2 := hi_G.out g h; show w2.heap.size ≠ g; omega)
  have c_g02_4 := cell_gr c_g02_3 hg (fun g h => by have h1 := lo_G.out g h; have h2 := hi_G.out g h; show w2.heap.size ≠ g; omega)
  have o_W_4 := Lib.hid (own_gr o_W_3.out hg (fun g g' h h' => by have h1 := lo_G.out g h; have h2 := hi_G.out g h; have h3 := lo_W.out g' h'; have h4 := hi_W.out g' h'; omega))
  have o_G_4 := Lib.hid ho
  have z4 := hg.size
  have T4 := Lib.hid (below_gr T3.out (by omega) hg (fun g h => by have h1 := lo_G.out g h; omega))
  have ac_w00_4 := fun o => cell_b c_w00_4 (below_alloc _ o)
  have bc_w00_4 := fun o o1 => cell_b (ac_w00_4 o) (below_alloc _ o1)
  have ac_w01_4 := fun o => cell_b c_w01_4 (below_alloc _ o)
  have bc_w01_4 := fun o o1 => cell_b (ac_w01_4 o) (below_alloc _ o1)
  have ac_w02_4 := fun o => cell_b c_w02_4 (below_alloc _ o)
  have bc_w02_4 := fun o o1 => cell_b (ac_w02_4 o) (below_alloc _ o1)
  have ac_g00_4 := fun o => cell_b c_g00_4 (below_alloc _ o)
  have bc_g00_4 := fun o o1 => cell_b (ac_g00_4 o) (below_alloc _ o1)
  have ac_g01_4 := fun o => cell_b c_g01_4 (below_alloc _ o)
  have bc_g01_4 := fun o o1 => cell_b (ac_g01_4 o) (below_alloc _ o1)
  have ac_g02_4 := fun o => cell_b c_g02_4 (below_alloc _ o)
  have bc_g02_4 := fun o o1 => cell_b (ac_g02_4 o) (below_alloc _ o1)
  clear ho hg T3 o_G_3 ac_w00_3 bc_w00_3 ac_w01_3 bc_w01_3 ac_w02_3 bc_w02_3 ac_g00_3 bc_g00_3 ac_g01_3 bc_g01_3 ac_g02_3 bc_g02_3 c_w00_3 c_w01_3 c_w02_3 c_g00_3 c_g01_3 c_g02_3 o_W_3
  go_wp2_with fail
  refine (L_heldBarrier _ _ _ _ 0 _ (own_rd o_G_4.out) (by omega) (by omega) (by omega)).mono ?_
  rintro e w5 ⟨rfl, hb⟩
  have D5 : Below w4.heap.size w4 w5 := hb
  have c_w00_5 := cell_b c_w00_4 D5
  have c_w01_5 := cell_b c_w01_4 D5
  have c_w02_5 := cell_b c_w02_4 D5
  have c_g00_5 := cell_b c_g00_4 D5
  have c_g01_5 := cell_b c_g01_4 D5
  have c_g02_5 := cell_b c_g02_4 D5
  have o_W_5 := Lib.hid (own_below o_W_4.out D5)
  have o_G_5 := Lib.hid (own_below o_G_4.out D5)
  have T5 := Lib.hid (below_trans T4.out D5)
  have z5 : w4.heap.size ≤ w5.heap.size := (by have := hb.size; (try simp at this); omega)
  have ac_w00_5 := fun o => cell_b c_w00_5 (below_alloc _ o)
  have bc_w00_5 := fun o o1 => cell_b (ac_w00_5 o) (below_alloc _ o1)
  have ac_w01_5 := fun o => cell_b c_w01_5 (below_alloc _ o)
  have bc_w01_5 := fun o o1 => cell_b (ac_w01_5 o) (below_alloc _ o1)
  have ac_w02_5 := fun o => cell_b c_w02_5 (below_alloc _ o)
  have bc_w02_5 := fun o o1 => cell_b (ac_w02_5 o) (below_alloc _ o1)
  have ac_g00_5 := fun o => cell_b c_g00_5 (below_alloc _ o)
  have bc_g00_5 := fun o o1 => cell_b (ac_g00_5 o) (below_alloc _ o1)
  have ac_g01_5 := fun o => cell_b c_g01_5 (below_alloc _ o)
  have bc_g01_5 := fun o o1 => cell_b (ac_g01_5 o) (below_alloc _ o1)
  have ac_g02_5 := fun o => cell_b c_g02_5 (below_alloc _ o)
  have bc_g02_5 := fun o o1 => cell_b (ac_g02_5 o) (below_alloc _ o1)
  clear ac_w00_4 bc_w00_4 ac_w01_4 bc_w01_4 ac_w02_4 bc_w02_4 ac_g00_4 bc_g00_4 ac_g01_4 bc_g01_4 ac_g02_4 bc_g02_4 c_w00_4 c_w01_4 c_w02_4 c_g00_4 c_g01_4 c_g02_4 o_W_4 o_G_4 hb D5 T4
  go_wp2_with fail
  refine (I_NewBarrier _ n).mono ?_
  rintro e w6 ⟨aH, cH, rfl, hH, hb⟩
  have D6 : Below w5.heap.size w5 w6 := hb
  have c_w00_6 := cell_b c_w00_5 D6
  have c_w01_6 := cell_b c_w01_5 D6
  have c_w02_6 := cell_b c_w02_5 D6
  have c_g00_6 := cell_b c_g00_5 D6
  have c_g01_6 := cell_b c_g01_5 D6
  have c_g02_6 := cell_b c_g02_5 D6
  have o_W_6 := Lib.hid (own_below o_W_5.out D6)
  have o_G_6 := Lib.hid (own_below o_G_5.out D6)
  have T6 := Lib.hid (below_trans T5.out D6)
  have z6 : w5.heap.size ≤ w6.heap.size := (by have := hb.size; (try simp at this); omega)
  have o_H_6 := Lib.hid (own_base hH (show w5.heap.size ≤ _ by simp; try omega))
  have lo_H := Lib.hid (own_lo o_H_6.out)
  have hi_H := Lib.hid (own_hi o_H_6.out)
  have ac_w00_6 := fun o => cell_b c_w00_6 (below_alloc _ o)
  have bc_w00_6 := fun o o1 => cell_b (ac_w00_6 o) (below_alloc _ o1)
  have ac_w01_6 := fun o => cell_b c_w01_6 (below_alloc _ o)
  have bc_w01_6 := fun o o1 => cell_b (ac_w01_6 o) (below_alloc _ o1)
  have ac_w02_6 := fun o => cell_b c_w02_6 (below_alloc _ o)
  have bc_w02_6 := fun o o1 => cell_b (ac_w02_6 o) (below_alloc _ o1)
  have ac_g00_6 := fun o => cell_b c_g00_6 (below_alloc _ o)
  have bc_g00_6 := fun o o1 => cell_b (ac_g00_6 o) (below_alloc _ o1)
  have ac_g01_6 := fun o => cell_b c_g01_6 (below_alloc _ o)
  have bc_g01_6 := fun o o1 => cell_b (ac_g01_6 o) (below_alloc _ o1)
  have ac_g02_6 := fun o => cell_b c_g02_6 (below_alloc _ o)
  have bc_g02_6 := fun o o1 => cell_b (ac_g02_6 o) (below_alloc _ o1)
  clear ac_w00_5 bc_w00_5 ac_w01_5 bc_w01_5 ac_w02_5 bc_w02_5 ac_g00_5 bc_g00_5 ac_g01_5 bc_g01_5 ac_g02_5 bc_g02_5 c_w00_5 c_w01_5 c_w02_5 c_g00_5 c_g01_5 c_g02_5 o_W_5 o_G_5 hb D6 hH T5
  go_wp2_with fail
  refine (eqB_true (L_eqBarrier _ _ _ _ _ [] [] (rd_alloc (own_rd o_H_6.out) _) (rd_alloc (own_rd o_W_6.out) _) (by simp) (by simp))).mono ?_
  rintro e w7 ⟨rfl, hb⟩
  have D7 : Below w6.heap.size w6 w7 := below_trans (below_alloc _ _) (hb)
  have c_w00_7 := cell_b c_w00_6 D7
  have c_w01_7 := cell_b c_w01_6 D7
  have c_w02_7 := cell_b c_w02_6 D7
  have c_g00_7 := cell_b c_g00_6 D7
  have c_g01_7 := cell_b c_g01_6 D7
  have c_g02_7 := cell_b c_g02_6 D7
  have o_W_7 := Lib.hid (own_below o_W_6.out D7)
  have o_G_7 := Lib.hid (own_below o_G_6.out D7)
  have o_H_7 := Lib.hid (own_below o_H_6.out D7)
  have T7 := Lib.hid (below_trans T6.out D7)
  have z7 : w6.heap.size + 1 ≤ w7.heap.size := (by have := hb.size; (try simp at this); omega)
  have c_h00_7 := cell_b (p := ⟨w6.heap.size, 0, none⟩) (v := .int .i64 (nbP n)) (by simp) hb
  have c_h01_7 := cell_b (p := ⟨w6.heap.size, 1, none⟩) (v := .int .i64 0) (by simp) hb
  have c_h02_7 := cell_b (p := ⟨w6.heap.size, 2, none⟩) (v := .slice aH ([] : List Int).length cH) (by simp) hb
  have ac_w00_7 := fun o => cell_b c_w00_7 (below_alloc _ o)
  have bc_w00_7 := fun o o1 => cell_b (ac_w00_7 o) (below_alloc _ o1)
  have ac_w01_7 := fun o => cell_b c_w01_7 (below_alloc _ o)
  have bc_w01_7 := fun o o1 => cell_b (ac_w01_7 o) (below_alloc _ o1)
  have ac_w02_7 := fun o => cell_b c_w02_7 (below_alloc _ o)
  have bc_w02_7 := fun o o1 => cell_b (ac_w02_7 o) (below_alloc _ o1)
  have ac_g00_7 := fun o => cell_b c_g00_7 (below_alloc _ o)
  have bc_g00_7 := fun o o1 => cell_b (ac_g00_7 o) (below_alloc _ o1)
  have ac_g01_7 := fun o => cell_b c_g01_7 (below_alloc _ o)
  have bc_g01_7 := fun o o1 => cell_b (ac_g01_7 o) (below_alloc _ o1)
  have ac_g02_7 := fun o => cell_b c_g02_7 (below_alloc _ o)
  have bc_g02_7 := fun o o1 => cell_b (ac_g02_7 o) (below_alloc _ o1)
  have ac_h00_7 := fun o => cell_b c_h00_7 (below_alloc _ o)
  have bc_h00_7 := fun o o1 => cell_b (ac_h00_7 o) (below_alloc _ o1)
  have ac_h01_7 := fun o => cell_b c_h01_7 (below_alloc _ o)
  have bc_h01_7 := fun o o1 => cell_b (ac_h01_7 o) (below_alloc _ o1)
  have ac_h02_7 := fun o => cell_b c_h02_7 (below_alloc _ o)
  have bc_h02_7 := fun o o1 => cell_b (ac_h02_7 o) (below_alloc _ o1)
  clear ac_w00_6 bc_w00_6 ac_w01_6 bc_w01_6 ac_w02_6 bc_w02_6 ac_g00_6 bc_g00_6 ac_g01_6 bc_g01_6 ac_g02_6 bc_g02_6 c_w00_6 c_w01_6 c_w02_6 c_g00_6 c_g01_6 c_g02_6 o_W_6 o_G_6 o_H_6 hb D7 T6
  go_wp2_with fail
  refine (L_heldBarrier _ _ _ _ 0 _ (own_rd o_G_7.out) (by omega) (by omega) (by omega)).mono ?_
  rintro e w8 ⟨rfl, hb⟩
  have D8 : Below w7.heap.size w7 w8 := hb
  have c_w00_8 := cell_b c_w00_7 D8
  have c_w01_8 := cell_b c_w01_7 D8
  have c_w02_8 := cell_b c_w02_7 D8
  have c_g00_8 := cell_b c_g00_7 D8
  have c_g01_8 := cell_b c_g01_7 D8
  have c_g02_8 := cell_b c_g02_7 D8
  have c_h00_8 := cell_b c_h00_7 D8
  have c_h01_8 := cell_b c_h01_7 D8
  have c_h02_8 := cell_b c_h02_7 D8
  have o_W_8 := Lib.hid (own_below o_W_7.out D8)
  have o_G_8 := Lib.hid (own_below o_G_7.out D8)
  have o_H_8 := Lib.hid (own_below o_H_7.out D8)
  have T8 := Lib.hid (below_trans T7.out D8)
  have z8 : w7.heap.size ≤ w8.heap.size := (by have := hb.size; (try simp at this); omega)
  have ac_w00_8 := fun o => cell_b c_w00_8 (below_alloc _ o)
  have bc_w00_8 := fun o o1 => cell_b (ac_w00_8 o) (below_alloc _ o1)
  have ac_w01_8 := fun o => cell_b c_w01_8 (below_alloc _ o)
  have bc_w01_8 := fun o o1 => cell_b (ac_w01_8 o) (below_alloc _ o1)
  have ac_w02_8 := fun o => cell_b c_w02_8 (below_alloc _ o)
  have bc_w02_8 := fun o o1 => cell_b (ac_w02_8 o) (below_alloc _ o1)
  have ac_g00_8 := fun o => cell_b c_g00_8 (below_alloc _ o)
  have bc_g00_8 := fun o o1 => cell_b (ac_g00_8 o) (below_alloc _ o1)
  have ac_g01_8 := fun o => cell_b c_g01_8 (below_alloc _ o)
  have bc_g01_8 := fun o o1 => cell_b (ac_g01_8 o) (below_alloc _ o1)
  have ac_g02_8 := fun o => cell_b c_g02_8 (below_alloc _ o)
  have bc_g02_8 := fun o o1 => cell_b (ac_g02_8 o) (below_alloc _ o1)
  have ac_h00_8 := fun o => cell_b c_h00_8 (below_alloc _ o)
  have bc_h00_8 := fun o o1 => cell_b (ac_h00_8 o) (below_alloc _ o1)
  have ac_h01_8 := fun o => cell_b c_h01_8 (below_alloc _ o)
  have bc_h01_8 := fun o o1 => cell_b (ac_h01_8 o) (below_alloc _ o1)
  have ac_h02_8 := fun o => cell_b c_h02_8 (below_alloc _ o)
  have bc_h02_8 := fun o o1 => cell_b (ac_h02_8 o) (below_alloc _ o1)
  clear ac_w00_7 bc_w00_7 ac_w01_7 bc_w01_7 ac_w02_7 bc_w02_7 ac_g00_7 bc_g00_7 ac_g01_7 bc_g01_7 ac_g02_7 bc_g02_7 ac_h00_7 bc_h00_7 ac_h01_7 bc_h01_7 ac_h02_7 bc_h02_7 c_w00_7 c_w01_7 c_w02_7 c_g00_7 c_g01_7 c_g02_7 c_h00_7 c_h01_7 c_h02_7 o_W_7 o_G_7 o_H_7 hb D8 T7
  go_wp2_with fail
  go_ret
  exact ⟨rfl, T8.out⟩
end Go.Proofs.Ytaoeacclkekokaa
