/- The law FnPlaceOf: the walk. -/
import Derived.Test.YtcbdpcalmafdiaaCodeSem
import Derived.Test.YtcbdpcalmafdiaaPlaceOf
import Derived.Deep.RegionHeld3
import Derived.Deep.DrawnRows
import Derived.Deep.RegionLaw
namespace Go.Proofs.Ytcbdpcalmafdiaa
open Go.RowKit
attribute [local go_sem ↓] Go.wp_at_zero Go.wp_at_succ
theorem place_at {f l : Int} {ws : List (Int × Int)} {k : Nat} (h : sval f l ws = true) (hk : k < ws.length) : place f l ws ws[k].1 = ((k : Int), true) := by
  have hl : k < (ws.map Prod.fst).length := by simpa using hk
  have e : (ws.map Prod.fst)[k] = ws[k].1 := by simp
  have hd : dist (ws.map Prod.fst) = true := by
    cases hd : dist (ws.map Prod.fst)
    · rw [sval_bad2 hd] at h; cases h
    · rfl
  have hn := ((dist_take_succ hl).1 (dist_take (k + 1) hd)).2.2
  rw [place_yes h (e ▸ List.getElem_mem hl), atF_hit hl (by rw [e]; simp) (e ▸ hn)]
theorem atF_in {xs : List Int} {x : Int} (h : x ∈ xs) : ∃ k : Nat, ∃ hk : k < xs.length, atF xs x = (k : Int) ∧ xs[k] = x := by
  have hk : xs.idxOf x < xs.length := List.idxOf_lt_length_of_mem h
  refine ⟨xs.idxOf x, hk, ?_, ?_⟩
  · unfold atF; rw [if_pos h]
  · exact List.getElem_idxOf hk
theorem place_in {f l : Int} {ws : List (Int × Int)} {t : Int} (h : sval f l ws = true) (hm : t ∈ ws.map Prod.fst) : ∃ k : Nat, ∃ hk : k < ws.length, place f l ws t = ((k : Int), true) ∧ ws[k].1 = t := by
  obtain ⟨k, hk, h1, h2⟩ := atF_in hm
  exact ⟨k, by simpa using hk, by rw [place_yes h hm, h1], by simpa using h2⟩
set_option maxHeartbeats 4000000 in
set_option maxRecDepth 100000 in
theorem W_FnPlaceOf (w : World) (v : Value) (n : Nat) (hv : RdY w v n) (hm : n ≤ 9223372036854775807) :
    Calls Try.prog 6 #[v] w fun e w' => e = .returned (.bool true) ∧ Below w.heap.size w w' := by
  have HV := Lib.hid hv
  obtain ⟨a, cap, rfl, hcap, hnc, hr⟩ := hv
  clear hr hnc
  by_cases hbig : 1048576 < n
  · go_enter Try.func6, Try.ntmps6
    go_wp2
    go_ret
    exact ⟨rfl, Below.refl _ _⟩
  · go_enter Try.func6, Try.ntmps6
    have T_0 : Hid (Below w.heap.size w w) := Lib.hid (Below.refl _ _)
    go_wp2_with fail
    (with_reducible refine (S_DrawPlaceOf _ _ n HV.out (by omega)).mono ?_)
    rintro e w1 ⟨p, q, xs, t, a1, c1, rfl, hx, hd, hb⟩
    have T_1 := Lib.hid (below_trans (T_0.out) hb)
    have z_1 : w.heap.size ≤ w1.heap.size := (by have := hb.size; (try simp at this); omega)
    have r_d_1 := Lib.hid (rdxb_mono hd (show w.heap.size ≤ _ by first | omega | (simp; done) | (simp; omega)))
    have lr_d := Lib.hid (rdxb_lo r_d_1.out)
    have hr_d := Lib.hid (rdxb_hi r_d_1.out)
    clear hb T_0 hd
    by_cases hs : sval p q xs = true
    · by_cases hm : t ∈ xs.map Prod.fst
      · obtain ⟨m, hm1, hm2, hm3⟩ := place_in hs hm
        have HP := Lib.hid hm2
        have HM := Lib.hid hm3
        have HS := Lib.hid hs
        have hm4 : (m : Int) < (xs.length : Int) := by omega
        clear hs hm hm2 hm3
        go_wp2_with fail
        (with_reducible refine (I_PlaceOf _ p q _ xs t (rdxb_x (rdxb_b (r_d_1.out) (below_alloc _ _))) (by omega)).mono ?_)
        rintro e w2 ⟨rfl, hb⟩
        have c_S0_2 := cell_b (p := ⟨w1.heap.size, 0, none⟩) (v := .int .i64 p) (by first | (simp; done) | (simp [World.cell?_alloc_past, World.cell?_alloc_at]; done)) hb
        have c_S1_2 := cell_b (p := ⟨w1.heap.size, 1, none⟩) (v := .int .i64 q) (by first | (simp; done) | (simp [World.cell?_alloc_past, World.cell?_alloc_at]; done)) hb
        have c_S2_2 := cell_b (p := ⟨w1.heap.size, 2, none⟩) (v := .slice a1 xs.length c1) (by first | (simp; done) | (simp [World.cell?_alloc_past, World.cell?_alloc_at]; done)) hb
        have r_d_2 := Lib.hid (rdxb_b (rdxb_b (r_d_1.out) (below_alloc _ _)) hb)
        have T_2 := Lib.hid (below_trans (below_trans (T_1.out) (below_alloc _ _)) hb)
        have z_2 : w1.heap.size + 1 ≤ w2.heap.size := (by have := hb.size; (try simp at this); omega)
        rw [HP.out]
        have ac_S0_2 := fun o => cell_b (c_S0_2) (below_alloc _ o)
        have bc_S0_2 := fun o o1 => cell_b (ac_S0_2 o) (below_alloc _ o1)
        have ac_S1_2 := fun o => cell_b (c_S1_2) (below_alloc _ o)
        have bc_S1_2 := fun o o1 => cell_b (ac_S1_2 o) (below_alloc _ o1)
        have ac_S2_2 := fun o => cell_b (c_S2_2) (below_alloc _ o)
        have bc_S2_2 := fun o o1 => cell_b (ac_S2_2 o) (below_alloc _ o1)
        clear hb r_d_1 T_1
        go_wp2_with fail
        (with_reducible refine (S_PlaceOf _ p q _ xs t (rdxb_x (r_d_2.out)) (by omega)).mono ?_)
        rintro e w3 ⟨rfl, hb⟩
        have c_S0_3 := cell_b (c_S0_2) hb
        have c_S1_3 := cell_b (c_S1_2) hb
        have c_S2_3 := cell_b (c_S2_2) hb
        have r_d_3 := Lib.hid (rdxb_b (r_d_2.out) hb)
        have T_3 := Lib.hid (below_trans (T_2.out) hb)
        have z_3 : w2.heap.size ≤ w3.heap.size := (by have := hb.size; (try simp at this); omega)
        rw [HP.out]
        have ac_S0_3 := fun o => cell_b (c_S0_3) (below_alloc _ o)
        have bc_S0_3 := fun o o1 => cell_b (ac_S0_3 o) (below_alloc _ o1)
        have ac_S1_3 := fun o => cell_b (c_S1_3) (below_alloc _ o)
        have bc_S1_3 := fun o o1 => cell_b (ac_S1_3 o) (below_alloc _ o1)
        have ac_S2_3 := fun o => cell_b (c_S2_3) (below_alloc _ o)
        have bc_S2_3 := fun o o1 => cell_b (ac_S2_3 o) (below_alloc _ o1)
        clear hb c_S0_2 c_S1_2 c_S2_2 r_d_2 T_2 ac_S0_2 bc_S0_2 ac_S1_2 bc_S1_2 ac_S2_2 bc_S2_2
        go_wp2_with fail
        (with_reducible refine (I_SemValid _ p q _ xs (rdxb_x (r_d_3.out)) (by omega)).mono ?_)
        rintro e w4 ⟨rfl, hb⟩
        have c_S0_4 := cell_b (c_S0_3) hb
        have c_S1_4 := cell_b (c_S1_3) hb
        have c_S2_4 := cell_b (c_S2_3) hb
        have r_d_4 := Lib.hid (rdxb_b (r_d_3.out) hb)
        have T_4 := Lib.hid (below_trans (T_3.out) hb)
        have z_4 : w3.heap.size ≤ w4.heap.size := (by have := hb.size; (try simp at this); omega)
        rw [HS.out]
        have ac_S0_4 := fun o => cell_b (c_S0_4) (below_alloc _ o)
        have bc_S0_4 := fun o o1 => cell_b (ac_S0_4 o) (below_alloc _ o1)
        have ac_S1_4 := fun o => cell_b (c_S1_4) (below_alloc _ o)
        have bc_S1_4 := fun o o1 => cell_b (ac_S1_4 o) (below_alloc _ o1)
        have ac_S2_4 := fun o => cell_b (c_S2_4) (below_alloc _ o)
        have bc_S2_4 := fun o o1 => cell_b (ac_S2_4 o) (below_alloc _ o1)
        clear hb c_S0_3 c_S1_3 c_S2_3 r_d_3 T_3 ac_S0_3 bc_S0_3 ac_S1_3 bc_S1_3 ac_S2_3 bc_S2_3
        go_wp2_with fail
        go_loopw [9, 10, 11] (fun i _ _ wr => ∃ k : Nat, i = .int .i64 (k : Int) ∧ k ≤ xs.length ∧ wr.cell? ⟨w1.heap.size, 0, none⟩ = some (.int .i64 p) ∧ wr.cell? ⟨w1.heap.size, 1, none⟩ = some (.int .i64 q) ∧ wr.cell? ⟨w1.heap.size, 2, none⟩ = some (.slice a1 xs.length c1) ∧ RdWB wr w.heap.size (.slice a1 xs.length c1) xs ∧ Below w.heap.size w wr ∧ w1.heap.size < wr.heap.size) (fun i _ _ _ => xs.length - (intOf i).toNat)
        case atStart => exact ⟨0, rfl, by omega, c_S0_4, c_S1_4, c_S2_4, (r_d_4.out), (T_4.out), by omega⟩
        case round =>
          obtain ⟨k, rfl, hk, c_S0_20, c_S1_20, c_S2_20, hd, hT, hBS⟩ := hrel
          obtain ⟨w20, rfl⟩ : ∃ wo : World, wo = wr := ⟨_, rfl⟩
          have hz20 := hT.size
          have r_d_20 := Lib.hid hd
          have T_20 := Lib.hid hT
          clear hd hT r_d_4 T_4 c_S0_4 c_S1_4 c_S2_4 ac_S0_4 bc_S0_4 ac_S1_4 bc_S1_4 ac_S2_4 bc_S2_4
          by_cases hlt : k < xs.length
          · obtain ⟨gd, od, ha⟩ := rdwb_some r_d_20.out (by omega)
            subst ha
            have HPk := Lib.hid (place_at HS.out hlt)
            have c_X0_20 := (rdwb_at r_d_20.out k hlt).1
            have hk2 : (k : Int) < (xs.length : Int) := by omega
            have ac_S0_20 := fun o => cell_b (c_S0_20) (below_alloc _ o)
            have bc_S0_20 := fun o o1 => cell_b (ac_S0_20 o) (below_alloc _ o1)
            have ac_S1_20 := fun o => cell_b (c_S1_20) (below_alloc _ o)
            have bc_S1_20 := fun o o1 => cell_b (ac_S1_20 o) (below_alloc _ o1)
            have ac_S2_20 := fun o => cell_b (c_S2_20) (below_alloc _ o)
            have bc_S2_20 := fun o o1 => cell_b (ac_S2_20 o) (below_alloc _ o1)
            have ac_X0_20 := fun o => cell_b (c_X0_20) (below_alloc _ o)
            have bc_X0_20 := fun o o1 => cell_b (ac_X0_20 o) (below_alloc _ o1)
            go_wp2_with fail
            go_region_law (first | (go_simp; go_at_call 15; (with_reducible refine (I_PlaceOf _ p q _ xs xs[k].1 (rdxb_x (rdxb_b (r_d_20.out) (drew_below _))) (by omega)).mono ?_); rintro e w21 ⟨rfl, hb⟩; have c_S0_21 := cell_b (cell_b (c_S0_20) (drew_below _)) hb; have c_S1_21 := cell_b (cell_b (c_S1_20) (drew_below _)) hb; have c_S2_21 := cell_b (cell_b (c_S2_20) (drew_below _)) hb; have c_X0_21 := cell_b (cell_b (c_X0_20) (drew_below _)) hb; have r_d_21 := Lib.hid (rdxb_b (rdxb_b (r_d_20.out) (drew_below _)) hb); have T_21 := Lib.hid (below_trans (below_trans (T_20.out) (drew_below _)) hb); have z_21 : w20.heap.size ≤ w21.heap.size := (by have := hb.size; (try simp at this); omega); rw [HPk.out]; have ac_S0_21 := fun o => cell_b (c_S0_21) (below_alloc _ o); have bc_S0_21 := fun o o1 => cell_b (ac_S0_21 o) (below_alloc _ o1); have ac_S1_21 := fun o => cell_b (c_S1_21) (below_alloc _ o); have bc_S1_21 := fun o o1 => cell_b (ac_S1_21 o) (below_alloc _ o1); have ac_S2_21 := fun o => cell_b (c_S2_21) (below_alloc _ o); have bc_S2_21 := fun o o1 => cell_b (ac_S2_21 o) (below_alloc _ o1); have ac_X0_21 := fun o => cell_b (c_X0_21) (below_alloc _ o); have bc_X0_21 := fun o o1 => cell_b (ac_X0_21 o) (below_alloc _ o1); clear hb c_S0_20 c_S1_20 c_S2_20 c_X0_20 r_d_20 T_20 ac_S0_20 bc_S0_20 ac_S1_20 bc_S1_20 ac_S2_20 bc_S2_20 ac_X0_20 bc_X0_20))
            all_goals
              go_wp2_with fail
              go_roundw
              case rel => exact ⟨k + 1, by go_num, by omega, c_S0_21, c_S1_21, c_S2_21, (r_d_21.out), (T_21.out), by omega⟩
              case measure => simp [intOf]; omega
          · obtain ⟨gd, od, ha⟩ := rdwb_some r_d_20.out (by omega)
            subst ha
            have c_X0_20 := (rdwb_at r_d_20.out m hm1).1
            rw [HM.out] at c_X0_20
            go_wp2_with fail
            go_ret
            exact ⟨rfl, T_20.out⟩
      · have HP := Lib.hid (place_no2 (f := p) (l := q) hm)
        have HS := Lib.hid hs
        clear hs hm
        go_wp2_with fail
        (with_reducible refine (I_PlaceOf _ p q _ xs t (rdxb_x (rdxb_b (r_d_1.out) (below_alloc _ _))) (by omega)).mono ?_)
        rintro e w2 ⟨rfl, hb⟩
        have c_S0_2 := cell_b (p := ⟨w1.heap.size, 0, none⟩) (v := .int .i64 p) (by first | (simp; done) | (simp [World.cell?_alloc_past, World.cell?_alloc_at]; done)) hb
        have c_S1_2 := cell_b (p := ⟨w1.heap.size, 1, none⟩) (v := .int .i64 q) (by first | (simp; done) | (simp [World.cell?_alloc_past, World.cell?_alloc_at]; done)) hb
        have c_S2_2 := cell_b (p := ⟨w1.heap.size, 2, none⟩) (v := .slice a1 xs.length c1) (by first | (simp; done) | (simp [World.cell?_alloc_past, World.cell?_alloc_at]; done)) hb
        have r_d_2 := Lib.hid (rdxb_b (rdxb_b (r_d_1.out) (below_alloc _ _)) hb)
        have T_2 := Lib.hid (below_trans (below_trans (T_1.out) (below_alloc _ _)) hb)
        have z_2 : w1.heap.size + 1 ≤ w2.heap.size := (by have := hb.size; (try simp at this); omega)
        rw [HP.out]
        have ac_S0_2 := fun o => cell_b (c_S0_2) (below_alloc _ o)
        have bc_S0_2 := fun o o1 => cell_b (ac_S0_2 o) (below_alloc _ o1)
        have ac_S1_2 := fun o => cell_b (c_S1_2) (below_alloc _ o)
        have bc_S1_2 := fun o o1 => cell_b (ac_S1_2 o) (below_alloc _ o1)
        have ac_S2_2 := fun o => cell_b (c_S2_2) (below_alloc _ o)
        have bc_S2_2 := fun o o1 => cell_b (ac_S2_2 o) (below_alloc _ o1)
        clear hb r_d_1 T_1
        go_wp2_with fail
        (with_reducible refine (S_PlaceOf _ p q _ xs t (rdxb_x (r_d_2.out)) (by omega)).mono ?_)
        rintro e w3 ⟨rfl, hb⟩
        have c_S0_3 := cell_b (c_S0_2) hb
        have c_S1_3 := cell_b (c_S1_2) hb
        have c_S2_3 := cell_b (c_S2_2) hb
        have r_d_3 := Lib.hid (rdxb_b (r_d_2.out) hb)
        have T_3 := Lib.hid (below_trans (T_2.out) hb)
        have z_3 : w2.heap.size ≤ w3.heap.size := (by have := hb.size; (try simp at this); omega)
        rw [HP.out]
        have ac_S0_3 := fun o => cell_b (c_S0_3) (below_alloc _ o)
        have bc_S0_3 := fun o o1 => cell_b (ac_S0_3 o) (below_alloc _ o1)
        have ac_S1_3 := fun o => cell_b (c_S1_3) (below_alloc _ o)
        have bc_S1_3 := fun o o1 => cell_b (ac_S1_3 o) (below_alloc _ o1)
        have ac_S2_3 := fun o => cell_b (c_S2_3) (below_alloc _ o)
        have bc_S2_3 := fun o o1 => cell_b (ac_S2_3 o) (below_alloc _ o1)
        clear hb c_S0_2 c_S1_2 c_S2_2 r_d_2 T_2 ac_S0_2 bc_S0_2 ac_S1_2 bc_S1_2 ac_S2_2 bc_S2_2
        go_wp2_with fail
        (with_reducible refine (I_SemValid _ p q _ xs (rdxb_x (r_d_3.out)) (by omega)).mono ?_)
        rintro e w4 ⟨rfl, hb⟩
        have c_S0_4 := cell_b (c_S0_3) hb
        have c_S1_4 := cell_b (c_S1_3) hb
        have c_S2_4 := cell_b (c_S2_3) hb
        have r_d_4 := Lib.hid (rdxb_b (r_d_3.out) hb)
        have T_4 := Lib.hid (below_trans (T_3.out) hb)
        have z_4 : w3.heap.size ≤ w4.heap.size := (by have := hb.size; (try simp at this); omega)
        rw [HS.out]
        have ac_S0_4 := fun o => cell_b (c_S0_4) (below_alloc _ o)
        have bc_S0_4 := fun o o1 => cell_b (ac_S0_4 o) (below_alloc _ o1)
        have ac_S1_4 := fun o => cell_b (c_S1_4) (below_alloc _ o)
        have bc_S1_4 := fun o o1 => cell_b (ac_S1_4 o) (below_alloc _ o1)
        have ac_S2_4 := fun o => cell_b (c_S2_4) (below_alloc _ o)
        have bc_S2_4 := fun o o1 => cell_b (ac_S2_4 o) (below_alloc _ o1)
        clear hb c_S0_3 c_S1_3 c_S2_3 r_d_3 T_3 ac_S0_3 bc_S0_3 ac_S1_3 bc_S1_3 ac_S2_3 bc_S2_3
        go_wp2_with fail
        go_loopw [9, 10, 11] (fun i _ _ wr => ∃ k : Nat, i = .int .i64 (k : Int) ∧ k ≤ xs.length ∧ wr.cell? ⟨w1.heap.size, 0, none⟩ = some (.int .i64 p) ∧ wr.cell? ⟨w1.heap.size, 1, none⟩ = some (.int .i64 q) ∧ wr.cell? ⟨w1.heap.size, 2, none⟩ = some (.slice a1 xs.length c1) ∧ RdWB wr w.heap.size (.slice a1 xs.length c1) xs ∧ Below w.heap.size w wr ∧ w1.heap.size < wr.heap.size) (fun i _ _ _ => xs.length - (intOf i).toNat)
        case atStart => exact ⟨0, rfl, by omega, c_S0_4, c_S1_4, c_S2_4, (r_d_4.out), (T_4.out), by omega⟩
        case round =>
          obtain ⟨k, rfl, hk, c_S0_20, c_S1_20, c_S2_20, hd, hT, hBS⟩ := hrel
          obtain ⟨w20, rfl⟩ : ∃ wo : World, wo = wr := ⟨_, rfl⟩
          have hz20 := hT.size
          have r_d_20 := Lib.hid hd
          have T_20 := Lib.hid hT
          clear hd hT r_d_4 T_4 c_S0_4 c_S1_4 c_S2_4 ac_S0_4 bc_S0_4 ac_S1_4 bc_S1_4 ac_S2_4 bc_S2_4
          by_cases hlt : k < xs.length
          · obtain ⟨gd, od, ha⟩ := rdwb_some r_d_20.out (by omega)
            subst ha
            have HPk := Lib.hid (place_at HS.out hlt)
            have c_X0_20 := (rdwb_at r_d_20.out k hlt).1
            have hk2 : (k : Int) < (xs.length : Int) := by omega
            have ac_S0_20 := fun o => cell_b (c_S0_20) (below_alloc _ o)
            have bc_S0_20 := fun o o1 => cell_b (ac_S0_20 o) (below_alloc _ o1)
            have ac_S1_20 := fun o => cell_b (c_S1_20) (below_alloc _ o)
            have bc_S1_20 := fun o o1 => cell_b (ac_S1_20 o) (below_alloc _ o1)
            have ac_S2_20 := fun o => cell_b (c_S2_20) (below_alloc _ o)
            have bc_S2_20 := fun o o1 => cell_b (ac_S2_20 o) (below_alloc _ o1)
            have ac_X0_20 := fun o => cell_b (c_X0_20) (below_alloc _ o)
            have bc_X0_20 := fun o o1 => cell_b (ac_X0_20 o) (below_alloc _ o1)
            go_wp2_with fail
            go_region_law (first | (go_simp; go_at_call 15; (with_reducible refine (I_PlaceOf _ p q _ xs xs[k].1 (rdxb_x (rdxb_b (r_d_20.out) (drew_below _))) (by omega)).mono ?_); rintro e w21 ⟨rfl, hb⟩; have c_S0_21 := cell_b (cell_b (c_S0_20) (drew_below _)) hb; have c_S1_21 := cell_b (cell_b (c_S1_20) (drew_below _)) hb; have c_S2_21 := cell_b (cell_b (c_S2_20) (drew_below _)) hb; have c_X0_21 := cell_b (cell_b (c_X0_20) (drew_below _)) hb; have r_d_21 := Lib.hid (rdxb_b (rdxb_b (r_d_20.out) (drew_below _)) hb); have T_21 := Lib.hid (below_trans (below_trans (T_20.out) (drew_below _)) hb); have z_21 : w20.heap.size ≤ w21.heap.size := (by have := hb.size; (try simp at this); omega); rw [HPk.out]; have ac_S0_21 := fun o => cell_b (c_S0_21) (below_alloc _ o); have bc_S0_21 := fun o o1 => cell_b (ac_S0_21 o) (below_alloc _ o1); have ac_S1_21 := fun o => cell_b (c_S1_21) (below_alloc _ o); have bc_S1_21 := fun o o1 => cell_b (ac_S1_21 o) (below_alloc _ o1); have ac_S2_21 := fun o => cell_b (c_S2_21) (below_alloc _ o); have bc_S2_21 := fun o o1 => cell_b (ac_S2_21 o) (below_alloc _ o1); have ac_X0_21 := fun o => cell_b (c_X0_21) (below_alloc _ o); have bc_X0_21 := fun o o1 => cell_b (ac_X0_21 o) (below_alloc _ o1); clear hb c_S0_20 c_S1_20 c_S2_20 c_X0_20 r_d_20 T_20 ac_S0_20 bc_S0_20 ac_S1_20 bc_S1_20 ac_S2_20 bc_S2_20 ac_X0_20 bc_X0_20))
            all_goals
              go_wp2_with fail
              go_roundw
              case rel => exact ⟨k + 1, by go_num, by omega, c_S0_21, c_S1_21, c_S2_21, (r_d_21.out), (T_21.out), by omega⟩
              case measure => simp [intOf]; omega
          · go_wp2_with fail
            go_ret
            exact ⟨rfl, T_20.out⟩
    · have HS : Hid (sval p q xs = false) := Lib.hid (by simpa using hs)
      have HP := Lib.hid (place_no1 (t := t) HS.out)
      clear hs
      go_wp2_with fail
      (with_reducible refine (I_PlaceOf _ p q _ xs t (rdxb_x (rdxb_b (r_d_1.out) (below_alloc _ _))) (by omega)).mono ?_)
      rintro e w2 ⟨rfl, hb⟩
      have c_S0_2 := cell_b (p := ⟨w1.heap.size, 0, none⟩) (v := .int .i64 p) (by first | (simp; done) | (simp [World.cell?_alloc_past, World.cell?_alloc_at]; done)) hb
      have c_S1_2 := cell_b (p := ⟨w1.heap.size, 1, none⟩) (v := .int .i64 q) (by first | (simp; done) | (simp [World.cell?_alloc_past, World.cell?_alloc_at]; done)) hb
      have c_S2_2 := cell_b (p := ⟨w1.heap.size, 2, none⟩) (v := .slice a1 xs.length c1) (by first | (simp; done) | (simp [World.cell?_alloc_past, World.cell?_alloc_at]; done)) hb
      have r_d_2 := Lib.hid (rdxb_b (rdxb_b (r_d_1.out) (below_alloc _ _)) hb)
      have T_2 := Lib.hid (below_trans (below_trans (T_1.out) (below_alloc _ _)) hb)
      have z_2 : w1.heap.size + 1 ≤ w2.heap.size := (by have := hb.size; (try simp at this); omega)
      rw [HP.out]
      have ac_S0_2 := fun o => cell_b (c_S0_2) (below_alloc _ o)
      have bc_S0_2 := fun o o1 => cell_b (ac_S0_2 o) (below_alloc _ o1)
      have ac_S1_2 := fun o => cell_b (c_S1_2) (below_alloc _ o)
      have bc_S1_2 := fun o o1 => cell_b (ac_S1_2 o) (below_alloc _ o1)
      have ac_S2_2 := fun o => cell_b (c_S2_2) (below_alloc _ o)
      have bc_S2_2 := fun o o1 => cell_b (ac_S2_2 o) (below_alloc _ o1)
      clear hb r_d_1 T_1
      go_wp2_with fail
      (with_reducible refine (S_PlaceOf _ p q _ xs t (rdxb_x (r_d_2.out)) (by omega)).mono ?_)
      rintro e w3 ⟨rfl, hb⟩
      have c_S0_3 := cell_b (c_S0_2) hb
      have c_S1_3 := cell_b (c_S1_2) hb
      have c_S2_3 := cell_b (c_S2_2) hb
      have r_d_3 := Lib.hid (rdxb_b (r_d_2.out) hb)
      have T_3 := Lib.hid (below_trans (T_2.out) hb)
      have z_3 : w2.heap.size ≤ w3.heap.size := (by have := hb.size; (try simp at this); omega)
      rw [HP.out]
      have ac_S0_3 := fun o => cell_b (c_S0_3) (below_alloc _ o)
      have bc_S0_3 := fun o o1 => cell_b (ac_S0_3 o) (below_alloc _ o1)
      have ac_S1_3 := fun o => cell_b (c_S1_3) (below_alloc _ o)
      have bc_S1_3 := fun o o1 => cell_b (ac_S1_3 o) (below_alloc _ o1)
      have ac_S2_3 := fun o => cell_b (c_S2_3) (below_alloc _ o)
      have bc_S2_3 := fun o o1 => cell_b (ac_S2_3 o) (below_alloc _ o1)
      clear hb c_S0_2 c_S1_2 c_S2_2 r_d_2 T_2 ac_S0_2 bc_S0_2 ac_S1_2 bc_S1_2 ac_S2_2 bc_S2_2
      go_wp2_with fail
      (with_reducible refine (I_SemValid _ p q _ xs (rdxb_x (r_d_3.out)) (by omega)).mono ?_)
      rintro e w4 ⟨rfl, hb⟩
      have c_S0_4 := cell_b (c_S0_3) hb
      have c_S1_4 := cell_b (c_S1_3) hb
      have c_S2_4 := cell_b (c_S2_3) hb
      have r_d_4 := Lib.hid (rdxb_b (r_d_3.out) hb)
      have T_4 := Lib.hid (below_trans (T_3.out) hb)
      have z_4 : w3.heap.size ≤ w4.heap.size := (by have := hb.size; (try simp at this); omega)
      rw [HS.out]
      have ac_S0_4 := fun o => cell_b (c_S0_4) (below_alloc _ o)
      have bc_S0_4 := fun o o1 => cell_b (ac_S0_4 o) (below_alloc _ o1)
      have ac_S1_4 := fun o => cell_b (c_S1_4) (below_alloc _ o)
      have bc_S1_4 := fun o o1 => cell_b (ac_S1_4 o) (below_alloc _ o1)
      have ac_S2_4 := fun o => cell_b (c_S2_4) (below_alloc _ o)
      have bc_S2_4 := fun o o1 => cell_b (ac_S2_4 o) (below_alloc _ o1)
      clear hb c_S0_3 c_S1_3 c_S2_3 r_d_3 T_3 ac_S0_3 bc_S0_3 ac_S1_3 bc_S1_3 ac_S2_3 bc_S2_3
      go_wp2_with fail
      go_ret
      exact ⟨rfl, (T_4.out)⟩
end Go.Proofs.Ytcbdpcalmafdiaa
