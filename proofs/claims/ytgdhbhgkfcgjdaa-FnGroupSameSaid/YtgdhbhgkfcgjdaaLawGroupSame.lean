/- The law FnGroupSame: the walk. -/
import Derived.Test.YtgdhbhgkfcgjdaaCodeGroup
import Derived.Test.YtgdhbhgkfcgjdaaPlainGroup
import Derived.Test.YtgdhbhgkfcgjdaaPlainSteps
import Derived.Test.YtgdhbhgkfcgjdaaCalm
import Derived.Deep.RegionHeld3
import Derived.Deep.DrawnRows
import Derived.Deep.RegionLaw
namespace Go.Proofs.Ytgdhbhgkfcgjdaa
open Go.RowKit
attribute [local go_sem ↓] Go.wp_at_zero Go.wp_at_succ
set_option maxHeartbeats 4000000 in
set_option maxRecDepth 100000 in
theorem W_FnGroupSame (w : World) (v : Value) (n : Nat) (hv : RdY w v n) (hm : n ≤ 9223372036854775807) :
    Calls Try.prog 3 #[v] w fun e w' => e = .returned (.bool true) ∧ Below w.heap.size w w' := by
  have HV := Lib.hid hv
  obtain ⟨a, cap, rfl, hcap, hnc, hr⟩ := hv
  clear hr hnc
  by_cases hbig : 1048576 < n
  · go_enter Try.func3, Try.ntmps3
    go_wp2
    go_ret
    exact ⟨rfl, Below.refl _ _⟩
  · go_enter Try.func3, Try.ntmps3
    have T_0 : Hid (Below w.heap.size w w) := Lib.hid (Below.refl _ _)
    go_wp2_with fail
    (with_reducible refine (S_DrawGroupSame _ _ n HV.out (by omega)).mono ?_)
    rintro e w1 ⟨c, xs, a1, c1, d, ys, b1, d1, rfl, hx, hy, hdx, hdy, hb⟩
    have T_1 := Lib.hid (below_trans (T_0.out) hb)
    have z_1 : w.heap.size ≤ w1.heap.size := (by have := hb.size; (try simp at this); omega)
    have r_x_1 := Lib.hid (rdb_mono hdx (show w.heap.size ≤ _ by first | omega | (simp; done) | (simp; omega)))
    have lr_x := Lib.hid (rdb_lo r_x_1.out)
    have hr_x := Lib.hid (rdb_hi r_x_1.out)
    have r_y_1 := Lib.hid (rdb_mono hdy (show w.heap.size ≤ _ by first | omega | (simp; done) | (simp; omega)))
    have lr_y := Lib.hid (rdb_lo r_y_1.out)
    have hr_y := Lib.hid (rdb_hi r_y_1.out)
    clear hb T_0 hdx hdy
    by_cases hs : (decide (c = d) && eqB xs ys) = true
    · obtain ⟨rfl, rfl⟩ : c = d ∧ xs = ys := by simpa [eqB] using hs
      clear hs
      by_cases hg : gval c xs = true
      · have HG : Hid (gval c xs = true) := Lib.hid (by simpa using hg)
        clear hg
        go_wp2_with fail
        (with_reducible refine (I_GroupSame_q _ (c) (c) _ (xs) _ (xs) true (rdb_rd (rdb_b (rdb_b (r_x_1.out) (below_alloc _ _)) (below_alloc _ _))) (rdb_rd (rdb_b (rdb_b (r_y_1.out) (below_alloc _ _)) (below_alloc _ _))) (by first | omega | (simp; done) | (simp; omega)) (by first | omega | (simp; done) | (simp; omega)) (by simp [eqB_self])).mono ?_)
        rintro e w2 ⟨rfl, hb⟩
        have c_A0_2 := cell_b (p := ⟨w1.heap.size, 0, none⟩) (v := .int .i64 c) (by first | (simp; done) | (simp [World.cell?_alloc_past, World.cell?_alloc_at]; done)) hb
        have c_A1_2 := cell_b (p := ⟨w1.heap.size, 1, none⟩) (v := .slice a1 xs.length c1) (by first | (simp; done) | (simp [World.cell?_alloc_past, World.cell?_alloc_at]; done)) hb
        have c_B0_2 := cell_b (p := ⟨w1.heap.size + 1, 0, none⟩) (v := .int .i64 c) (by first | (simp; done) | (simp [World.cell?_alloc_past, World.cell?_alloc_at]; done)) hb
        have c_B1_2 := cell_b (p := ⟨w1.heap.size + 1, 1, none⟩) (v := .slice b1 xs.length d1) (by first | (simp; done) | (simp [World.cell?_alloc_past, World.cell?_alloc_at]; done)) hb
        have r_x_2 := Lib.hid (rdb_b (rdb_b (rdb_b (r_x_1.out) (below_alloc _ _)) (below_alloc _ _)) hb)
        have r_y_2 := Lib.hid (rdb_b (rdb_b (rdb_b (r_y_1.out) (below_alloc _ _)) (below_alloc _ _)) hb)
        have T_2 := Lib.hid (below_trans (below_trans (below_trans (T_1.out) (below_alloc _ _)) (below_alloc _ _)) hb)
        have z_2 : w1.heap.size + 2 ≤ w2.heap.size := (by have := hb.size; (try simp at this); omega)
        have ac_A0_2 := fun o => cell_b (c_A0_2) (below_alloc _ o)
        have bc_A0_2 := fun o o1 => cell_b (ac_A0_2 o) (below_alloc _ o1)
        have dc_A0_2 := fun o o1 o2 => cell_b (bc_A0_2 o o1) (below_alloc _ o2)
        have ac_A1_2 := fun o => cell_b (c_A1_2) (below_alloc _ o)
        have bc_A1_2 := fun o o1 => cell_b (ac_A1_2 o) (below_alloc _ o1)
        have dc_A1_2 := fun o o1 o2 => cell_b (bc_A1_2 o o1) (below_alloc _ o2)
        have ac_B0_2 := fun o => cell_b (c_B0_2) (below_alloc _ o)
        have bc_B0_2 := fun o o1 => cell_b (ac_B0_2 o) (below_alloc _ o1)
        have dc_B0_2 := fun o o1 o2 => cell_b (bc_B0_2 o o1) (below_alloc _ o2)
        have ac_B1_2 := fun o => cell_b (c_B1_2) (below_alloc _ o)
        have bc_B1_2 := fun o o1 => cell_b (ac_B1_2 o) (below_alloc _ o1)
        have dc_B1_2 := fun o o1 o2 => cell_b (bc_B1_2 o o1) (below_alloc _ o2)
        clear hb r_x_1 r_y_1 T_1
        have HQ1 : Hid (gval c xs = true) := Lib.hid (HG.out)
        go_wp2_with fail
        have hp : ∀ ω1 ω2, (fun w' => w'.cell? ⟨w1.heap.size, 0, none⟩ = some (.int .i64 c) ∧ w'.cell? ⟨w1.heap.size, 1, none⟩ = some (.slice a1 xs.length c1) ∧ w'.cell? ⟨w1.heap.size + 1, 0, none⟩ = some (.int .i64 c) ∧ w'.cell? ⟨w1.heap.size + 1, 1, none⟩ = some (.slice b1 xs.length d1) ∧ RdB w' (w.heap.size) (.slice a1 xs.length c1) (xs) ∧ RdB w' (w.heap.size) (.slice b1 xs.length d1) (xs)) ω1 → Below ω1.heap.size ω1 ω2 → (fun w' => w'.cell? ⟨w1.heap.size, 0, none⟩ = some (.int .i64 c) ∧ w'.cell? ⟨w1.heap.size, 1, none⟩ = some (.slice a1 xs.length c1) ∧ w'.cell? ⟨w1.heap.size + 1, 0, none⟩ = some (.int .i64 c) ∧ w'.cell? ⟨w1.heap.size + 1, 1, none⟩ = some (.slice b1 xs.length d1) ∧ RdB w' (w.heap.size) (.slice a1 xs.length c1) (xs) ∧ RdB w' (w.heap.size) (.slice b1 xs.length d1) (xs)) ω2 := fun _ _ h hb => ⟨cell_b h.1 hb, cell_b h.2.1 hb, cell_b h.2.2.1 hb, cell_b h.2.2.2.1 hb, rdb_b h.2.2.2.2.1 hb, rdb_b h.2.2.2.2.2 hb⟩
        have HP := Lib.hid hp
        clear hp
        refine wp_region_calm (fun w' => w'.cell? ⟨w1.heap.size, 0, none⟩ = some (.int .i64 c) ∧ w'.cell? ⟨w1.heap.size, 1, none⟩ = some (.slice a1 xs.length c1) ∧ w'.cell? ⟨w1.heap.size + 1, 0, none⟩ = some (.int .i64 c) ∧ w'.cell? ⟨w1.heap.size + 1, 1, none⟩ = some (.slice b1 xs.length d1) ∧ RdB w' (w.heap.size) (.slice a1 xs.length c1) (xs) ∧ RdB w' (w.heap.size) (.slice b1 xs.length d1) (xs)) (by kernel_rfl) (by kernel_rfl) ⟨(c_A0_2), (c_A1_2), (c_B0_2), (c_B1_2), (r_x_2.out), (r_y_2.out)⟩ HP.out ?_
        intro hne hs
        (try dsimp only at hs)
        have q_A0 := fun n => (hs n).1
        have q_A1 := fun n => (hs n).2.1
        have q_B0 := fun n => (hs n).2.2.1
        have q_B1 := fun n => (hs n).2.2.2.1
        have Q_x := Lib.hid (fun n => (hs n).2.2.2.2.1)
        have Q_y := Lib.hid (fun n => (hs n).2.2.2.2.2)
        clear hs
        repeat (go_big_quiet_step (first | (go_at_call 14; with_reducible exact calm_of HP.out (S_GroupSame_q _ (c) (c) _ (xs) _ (xs) true (rdb_rd (Q_x.out _)) (rdb_rd (Q_y.out _)) (by first | omega | (simp; done) | (simp; omega)) (by first | omega | (simp; done) | (simp; omega)) (by simp [eqB_self]))) | (go_at_call 13; with_reducible exact calm_of HP.out (I_GroupSame_q _ (c) (c) _ (xs) _ (xs) true (rdb_rd (Q_y.out _)) (rdb_rd (Q_x.out _)) (by first | omega | (simp; done) | (simp; omega)) (by first | omega | (simp; done) | (simp; omega)) (by simp [eqB_self]))) | (go_at_call 13; with_reducible exact calm_of HP.out (I_GroupSame_q _ (c) (c) _ (xs) _ (xs) true (rdb_rd (Q_x.out _)) (rdb_rd (Q_x.out _)) (by first | omega | (simp; done) | (simp; omega)) (by first | omega | (simp; done) | (simp; omega)) (by simp [eqB_self]))) | (go_at_call 15; with_reducible exact calm_of HP.out (I_GroupValid_q _ (c) _ (xs)  (true) (rdb_rd (Q_x.out _)) (by first | omega | (simp; done) | (simp; omega)) HQ1.out)) | (go_at_call 15; with_reducible exact calm_of HP.out (I_GroupValid_q _ (c) _ (xs)  (true) (rdb_rd (Q_y.out _)) (by first | omega | (simp; done) | (simp; omega)) HQ1.out)) | (go_at_call 16; with_reducible exact calm_of HP.out (S_GroupValid_q _ (c) _ (xs)  (true) (rdb_rd (Q_y.out _)) (by first | omega | (simp; done) | (simp; omega)) HQ1.out))))
        refine wpQuiet_nil ?_
        rintro _ ⟨n, rfl⟩
        go_wp2_with fail
        go_ret
        exact ⟨rfl, below_trans (T_2.out) n.below⟩
      · have HG : Hid (gval c xs = false) := Lib.hid (by simpa using hg)
        clear hg
        go_wp2_with fail
        (with_reducible refine (I_GroupSame_q _ (c) (c) _ (xs) _ (xs) true (rdb_rd (rdb_b (rdb_b (r_x_1.out) (below_alloc _ _)) (below_alloc _ _))) (rdb_rd (rdb_b (rdb_b (r_y_1.out) (below_alloc _ _)) (below_alloc _ _))) (by first | omega | (simp; done) | (simp; omega)) (by first | omega | (simp; done) | (simp; omega)) (by simp [eqB_self])).mono ?_)
        rintro e w2 ⟨rfl, hb⟩
        have c_A0_2 := cell_b (p := ⟨w1.heap.size, 0, none⟩) (v := .int .i64 c) (by first | (simp; done) | (simp [World.cell?_alloc_past, World.cell?_alloc_at]; done)) hb
        have c_A1_2 := cell_b (p := ⟨w1.heap.size, 1, none⟩) (v := .slice a1 xs.length c1) (by first | (simp; done) | (simp [World.cell?_alloc_past, World.cell?_alloc_at]; done)) hb
        have c_B0_2 := cell_b (p := ⟨w1.heap.size + 1, 0, none⟩) (v := .int .i64 c) (by first | (simp; done) | (simp [World.cell?_alloc_past, World.cell?_alloc_at]; done)) hb
        have c_B1_2 := cell_b (p := ⟨w1.heap.size + 1, 1, none⟩) (v := .slice b1 xs.length d1) (by first | (simp; done) | (simp [World.cell?_alloc_past, World.cell?_alloc_at]; done)) hb
        have r_x_2 := Lib.hid (rdb_b (rdb_b (rdb_b (r_x_1.out) (below_alloc _ _)) (below_alloc _ _)) hb)
        have r_y_2 := Lib.hid (rdb_b (rdb_b (rdb_b (r_y_1.out) (below_alloc _ _)) (below_alloc _ _)) hb)
        have T_2 := Lib.hid (below_trans (below_trans (below_trans (T_1.out) (below_alloc _ _)) (below_alloc _ _)) hb)
        have z_2 : w1.heap.size + 2 ≤ w2.heap.size := (by have := hb.size; (try simp at this); omega)
        have ac_A0_2 := fun o => cell_b (c_A0_2) (below_alloc _ o)
        have bc_A0_2 := fun o o1 => cell_b (ac_A0_2 o) (below_alloc _ o1)
        have dc_A0_2 := fun o o1 o2 => cell_b (bc_A0_2 o o1) (below_alloc _ o2)
        have ac_A1_2 := fun o => cell_b (c_A1_2) (below_alloc _ o)
        have bc_A1_2 := fun o o1 => cell_b (ac_A1_2 o) (below_alloc _ o1)
        have dc_A1_2 := fun o o1 o2 => cell_b (bc_A1_2 o o1) (below_alloc _ o2)
        have ac_B0_2 := fun o => cell_b (c_B0_2) (below_alloc _ o)
        have bc_B0_2 := fun o o1 => cell_b (ac_B0_2 o) (below_alloc _ o1)
        have dc_B0_2 := fun o o1 o2 => cell_b (bc_B0_2 o o1) (below_alloc _ o2)
        have ac_B1_2 := fun o => cell_b (c_B1_2) (below_alloc _ o)
        have bc_B1_2 := fun o o1 => cell_b (ac_B1_2 o) (below_alloc _ o1)
        have dc_B1_2 := fun o o1 o2 => cell_b (bc_B1_2 o o1) (below_alloc _ o2)
        clear hb r_x_1 r_y_1 T_1
        have HQ1 : Hid (gval c xs = false) := Lib.hid (HG.out)
        go_wp2_with fail
        have hp : ∀ ω1 ω2, (fun w' => w'.cell? ⟨w1.heap.size, 0, none⟩ = some (.int .i64 c) ∧ w'.cell? ⟨w1.heap.size, 1, none⟩ = some (.slice a1 xs.length c1) ∧ w'.cell? ⟨w1.heap.size + 1, 0, none⟩ = some (.int .i64 c) ∧ w'.cell? ⟨w1.heap.size + 1, 1, none⟩ = some (.slice b1 xs.length d1) ∧ RdB w' (w.heap.size) (.slice a1 xs.length c1) (xs) ∧ RdB w' (w.heap.size) (.slice b1 xs.length d1) (xs)) ω1 → Below ω1.heap.size ω1 ω2 → (fun w' => w'.cell? ⟨w1.heap.size, 0, none⟩ = some (.int .i64 c) ∧ w'.cell? ⟨w1.heap.size, 1, none⟩ = some (.slice a1 xs.length c1) ∧ w'.cell? ⟨w1.heap.size + 1, 0, none⟩ = some (.int .i64 c) ∧ w'.cell? ⟨w1.heap.size + 1, 1, none⟩ = some (.slice b1 xs.length d1) ∧ RdB w' (w.heap.size) (.slice a1 xs.length c1) (xs) ∧ RdB w' (w.heap.size) (.slice b1 xs.length d1) (xs)) ω2 := fun _ _ h hb => ⟨cell_b h.1 hb, cell_b h.2.1 hb, cell_b h.2.2.1 hb, cell_b h.2.2.2.1 hb, rdb_b h.2.2.2.2.1 hb, rdb_b h.2.2.2.2.2 hb⟩
        have HP := Lib.hid hp
        clear hp
        refine wp_region_calm (fun w' => w'.cell? ⟨w1.heap.size, 0, none⟩ = some (.int .i64 c) ∧ w'.cell? ⟨w1.heap.size, 1, none⟩ = some (.slice a1 xs.length c1) ∧ w'.cell? ⟨w1.heap.size + 1, 0, none⟩ = some (.int .i64 c) ∧ w'.cell? ⟨w1.heap.size + 1, 1, none⟩ = some (.slice b1 xs.length d1) ∧ RdB w' (w.heap.size) (.slice a1 xs.length c1) (xs) ∧ RdB w' (w.heap.size) (.slice b1 xs.length d1) (xs)) (by kernel_rfl) (by kernel_rfl) ⟨(c_A0_2), (c_A1_2), (c_B0_2), (c_B1_2), (r_x_2.out), (r_y_2.out)⟩ HP.out ?_
        intro hne hs
        (try dsimp only at hs)
        have q_A0 := fun n => (hs n).1
        have q_A1 := fun n => (hs n).2.1
        have q_B0 := fun n => (hs n).2.2.1
        have q_B1 := fun n => (hs n).2.2.2.1
        have Q_x := Lib.hid (fun n => (hs n).2.2.2.2.1)
        have Q_y := Lib.hid (fun n => (hs n).2.2.2.2.2)
        clear hs
        repeat (go_big_quiet_step (first | (go_at_call 14; with_reducible exact calm_of HP.out (S_GroupSame_q _ (c) (c) _ (xs) _ (xs) true (rdb_rd (Q_x.out _)) (rdb_rd (Q_y.out _)) (by first | omega | (simp; done) | (simp; omega)) (by first | omega | (simp; done) | (simp; omega)) (by simp [eqB_self]))) | (go_at_call 13; with_reducible exact calm_of HP.out (I_GroupSame_q _ (c) (c) _ (xs) _ (xs) true (rdb_rd (Q_y.out _)) (rdb_rd (Q_x.out _)) (by first | omega | (simp; done) | (simp; omega)) (by first | omega | (simp; done) | (simp; omega)) (by simp [eqB_self]))) | (go_at_call 13; with_reducible exact calm_of HP.out (I_GroupSame_q _ (c) (c) _ (xs) _ (xs) true (rdb_rd (Q_x.out _)) (rdb_rd (Q_x.out _)) (by first | omega | (simp; done) | (simp; omega)) (by first | omega | (simp; done) | (simp; omega)) (by simp [eqB_self]))) | (go_at_call 15; with_reducible exact calm_of HP.out (I_GroupValid_q _ (c) _ (xs)  (false) (rdb_rd (Q_x.out _)) (by first | omega | (simp; done) | (simp; omega)) HQ1.out)) | (go_at_call 15; with_reducible exact calm_of HP.out (I_GroupValid_q _ (c) _ (xs)  (false) (rdb_rd (Q_y.out _)) (by first | omega | (simp; done) | (simp; omega)) HQ1.out)) | (go_at_call 16; with_reducible exact calm_of HP.out (S_GroupValid_q _ (c) _ (xs)  (false) (rdb_rd (Q_y.out _)) (by first | omega | (simp; done) | (simp; omega)) HQ1.out))))
        refine wpQuiet_nil ?_
        rintro _ ⟨n, rfl⟩
        go_wp2_with fail
        go_ret
        exact ⟨rfl, below_trans (T_2.out) n.below⟩
    · by_cases hg : gval d ys = true
      · have HG : Hid (gval d ys = true) := Lib.hid (by simpa using hg)
        clear hg
        have HS : Hid ((decide (c = d) && eqB xs ys) = false) := Lib.hid (by simpa using hs)
        have HS2 : Hid ((decide (d = c) && eqB ys xs) = false) := Lib.hid (by rw [same_sym1]; exact HS.out)
        clear hs
        go_wp2_with fail
        (with_reducible refine (I_GroupSame_q _ (c) (d) _ (xs) _ (ys) false (rdb_rd (rdb_b (rdb_b (r_x_1.out) (below_alloc _ _)) (below_alloc _ _))) (rdb_rd (rdb_b (rdb_b (r_y_1.out) (below_alloc _ _)) (below_alloc _ _))) (by first | omega | (simp; done) | (simp; omega)) (by first | omega | (simp; done) | (simp; omega)) HS.out).mono ?_)
        rintro e w2 ⟨rfl, hb⟩
        have c_A0_2 := cell_b (p := ⟨w1.heap.size, 0, none⟩) (v := .int .i64 c) (by first | (simp; done) | (simp [World.cell?_alloc_past, World.cell?_alloc_at]; done)) hb
        have c_A1_2 := cell_b (p := ⟨w1.heap.size, 1, none⟩) (v := .slice a1 xs.length c1) (by first | (simp; done) | (simp [World.cell?_alloc_past, World.cell?_alloc_at]; done)) hb
        have c_B0_2 := cell_b (p := ⟨w1.heap.size + 1, 0, none⟩) (v := .int .i64 d) (by first | (simp; done) | (simp [World.cell?_alloc_past, World.cell?_alloc_at]; done)) hb
        have c_B1_2 := cell_b (p := ⟨w1.heap.size + 1, 1, none⟩) (v := .slice b1 ys.length d1) (by first | (simp; done) | (simp [World.cell?_alloc_past, World.cell?_alloc_at]; done)) hb
        have r_x_2 := Lib.hid (rdb_b (rdb_b (rdb_b (r_x_1.out) (below_alloc _ _)) (below_alloc _ _)) hb)
        have r_y_2 := Lib.hid (rdb_b (rdb_b (rdb_b (r_y_1.out) (below_alloc _ _)) (below_alloc _ _)) hb)
        have T_2 := Lib.hid (below_trans (below_trans (below_trans (T_1.out) (below_alloc _ _)) (below_alloc _ _)) hb)
        have z_2 : w1.heap.size + 2 ≤ w2.heap.size := (by have := hb.size; (try simp at this); omega)
        have ac_A0_2 := fun o => cell_b (c_A0_2) (below_alloc _ o)
        have bc_A0_2 := fun o o1 => cell_b (ac_A0_2 o) (below_alloc _ o1)
        have dc_A0_2 := fun o o1 o2 => cell_b (bc_A0_2 o o1) (below_alloc _ o2)
        have ac_A1_2 := fun o => cell_b (c_A1_2) (below_alloc _ o)
        have bc_A1_2 := fun o o1 => cell_b (ac_A1_2 o) (below_alloc _ o1)
        have dc_A1_2 := fun o o1 o2 => cell_b (bc_A1_2 o o1) (below_alloc _ o2)
        have ac_B0_2 := fun o => cell_b (c_B0_2) (below_alloc _ o)
        have bc_B0_2 := fun o o1 => cell_b (ac_B0_2 o) (below_alloc _ o1)
        have dc_B0_2 := fun o o1 o2 => cell_b (bc_B0_2 o o1) (below_alloc _ o2)
        have ac_B1_2 := fun o => cell_b (c_B1_2) (below_alloc _ o)
        have bc_B1_2 := fun o o1 => cell_b (ac_B1_2 o) (below_alloc _ o1)
        have dc_B1_2 := fun o o1 o2 => cell_b (bc_B1_2 o o1) (below_alloc _ o2)
        clear hb r_x_1 r_y_1 T_1
        have HQ1 : Hid (gval d ys = true) := Lib.hid (HG.out)
        go_wp2_with fail
        have hp : ∀ ω1 ω2, (fun w' => w'.cell? ⟨w1.heap.size, 0, none⟩ = some (.int .i64 c) ∧ w'.cell? ⟨w1.heap.size, 1, none⟩ = some (.slice a1 xs.length c1) ∧ w'.cell? ⟨w1.heap.size + 1, 0, none⟩ = some (.int .i64 d) ∧ w'.cell? ⟨w1.heap.size + 1, 1, none⟩ = some (.slice b1 ys.length d1) ∧ RdB w' (w.heap.size) (.slice a1 xs.length c1) (xs) ∧ RdB w' (w.heap.size) (.slice b1 ys.length d1) (ys)) ω1 → Below ω1.heap.size ω1 ω2 → (fun w' => w'.cell? ⟨w1.heap.size, 0, none⟩ = some (.int .i64 c) ∧ w'.cell? ⟨w1.heap.size, 1, none⟩ = some (.slice a1 xs.length c1) ∧ w'.cell? ⟨w1.heap.size + 1, 0, none⟩ = some (.int .i64 d) ∧ w'.cell? ⟨w1.heap.size + 1, 1, none⟩ = some (.slice b1 ys.length d1) ∧ RdB w' (w.heap.size) (.slice a1 xs.length c1) (xs) ∧ RdB w' (w.heap.size) (.slice b1 ys.length d1) (ys)) ω2 := fun _ _ h hb => ⟨cell_b h.1 hb, cell_b h.2.1 hb, cell_b h.2.2.1 hb, cell_b h.2.2.2.1 hb, rdb_b h.2.2.2.2.1 hb, rdb_b h.2.2.2.2.2 hb⟩
        have HP := Lib.hid hp
        clear hp
        refine wp_region_calm (fun w' => w'.cell? ⟨w1.heap.size, 0, none⟩ = some (.int .i64 c) ∧ w'.cell? ⟨w1.heap.size, 1, none⟩ = some (.slice a1 xs.length c1) ∧ w'.cell? ⟨w1.heap.size + 1, 0, none⟩ = some (.int .i64 d) ∧ w'.cell? ⟨w1.heap.size + 1, 1, none⟩ = some (.slice b1 ys.length d1) ∧ RdB w' (w.heap.size) (.slice a1 xs.length c1) (xs) ∧ RdB w' (w.heap.size) (.slice b1 ys.length d1) (ys)) (by kernel_rfl) (by kernel_rfl) ⟨(c_A0_2), (c_A1_2), (c_B0_2), (c_B1_2), (r_x_2.out), (r_y_2.out)⟩ HP.out ?_
        intro hne hs
        (try dsimp only at hs)
        have q_A0 := fun n => (hs n).1
        have q_A1 := fun n => (hs n).2.1
        have q_B0 := fun n => (hs n).2.2.1
        have q_B1 := fun n => (hs n).2.2.2.1
        have Q_x := Lib.hid (fun n => (hs n).2.2.2.2.1)
        have Q_y := Lib.hid (fun n => (hs n).2.2.2.2.2)
        clear hs
        repeat (go_big_quiet_step (first | (go_at_call 14; with_reducible exact calm_of HP.out (S_GroupSame_q _ (c) (d) _ (xs) _ (ys) false (rdb_rd (Q_x.out _)) (rdb_rd (Q_y.out _)) (by first | omega | (simp; done) | (simp; omega)) (by first | omega | (simp; done) | (simp; omega)) HS.out)) | (go_at_call 13; with_reducible exact calm_of HP.out (I_GroupSame_q _ (d) (c) _ (ys) _ (xs) false (rdb_rd (Q_y.out _)) (rdb_rd (Q_x.out _)) (by first | omega | (simp; done) | (simp; omega)) (by first | omega | (simp; done) | (simp; omega)) HS2.out)) | (go_at_call 13; with_reducible exact calm_of HP.out (I_GroupSame_q _ (c) (c) _ (xs) _ (xs) true (rdb_rd (Q_x.out _)) (rdb_rd (Q_x.out _)) (by first | omega | (simp; done) | (simp; omega)) (by first | omega | (simp; done) | (simp; omega)) (by simp [eqB_self]))) | (go_at_call 15; with_reducible exact calm_of HP.out (I_GroupValid_q _ (d) _ (ys)  (true) (rdb_rd (Q_y.out _)) (by first | omega | (simp; done) | (simp; omega)) HQ1.out)) | (go_at_call 16; with_reducible exact calm_of HP.out (S_GroupValid_q _ (d) _ (ys)  (true) (rdb_rd (Q_y.out _)) (by first | omega | (simp; done) | (simp; omega)) HQ1.out))))
        refine wpQuiet_nil ?_
        rintro _ ⟨n, rfl⟩
        go_wp2_with fail
        go_ret
        exact ⟨rfl, below_trans (T_2.out) n.below⟩
      · have HG : Hid (gval d ys = false) := Lib.hid (by simpa using hg)
        clear hg
        have HS : Hid ((decide (c = d) && eqB xs ys) = false) := Lib.hid (by simpa using hs)
        have HS2 : Hid ((decide (d = c) && eqB ys xs) = false) := Lib.hid (by rw [same_sym1]; exact HS.out)
        clear hs
        go_wp2_with fail
        (with_reducible refine (I_GroupSame_q _ (c) (d) _ (xs) _ (ys) false (rdb_rd (rdb_b (rdb_b (r_x_1.out) (below_alloc _ _)) (below_alloc _ _))) (rdb_rd (rdb_b (rdb_b (r_y_1.out) (below_alloc _ _)) (below_alloc _ _))) (by first | omega | (simp; done) | (simp; omega)) (by first | omega | (simp; done) | (simp; omega)) HS.out).mono ?_)
        rintro e w2 ⟨rfl, hb⟩
        have c_A0_2 := cell_b (p := ⟨w1.heap.size, 0, none⟩) (v := .int .i64 c) (by first | (simp; done) | (simp [World.cell?_alloc_past, World.cell?_alloc_at]; done)) hb
        have c_A1_2 := cell_b (p := ⟨w1.heap.size, 1, none⟩) (v := .slice a1 xs.length c1) (by first | (simp; done) | (simp [World.cell?_alloc_past, World.cell?_alloc_at]; done)) hb
        have c_B0_2 := cell_b (p := ⟨w1.heap.size + 1, 0, none⟩) (v := .int .i64 d) (by first | (simp; done) | (simp [World.cell?_alloc_past, World.cell?_alloc_at]; done)) hb
        have c_B1_2 := cell_b (p := ⟨w1.heap.size + 1, 1, none⟩) (v := .slice b1 ys.length d1) (by first | (simp; done) | (simp [World.cell?_alloc_past, World.cell?_alloc_at]; done)) hb
        have r_x_2 := Lib.hid (rdb_b (rdb_b (rdb_b (r_x_1.out) (below_alloc _ _)) (below_alloc _ _)) hb)
        have r_y_2 := Lib.hid (rdb_b (rdb_b (rdb_b (r_y_1.out) (below_alloc _ _)) (below_alloc _ _)) hb)
        have T_2 := Lib.hid (below_trans (below_trans (below_trans (T_1.out) (below_alloc _ _)) (below_alloc _ _)) hb)
        have z_2 : w1.heap.size + 2 ≤ w2.heap.size := (by have := hb.size; (try simp at this); omega)
        have ac_A0_2 := fun o => cell_b (c_A0_2) (below_alloc _ o)
        have bc_A0_2 := fun o o1 => cell_b (ac_A0_2 o) (below_alloc _ o1)
        have dc_A0_2 := fun o o1 o2 => cell_b (bc_A0_2 o o1) (below_alloc _ o2)
        have ac_A1_2 := fun o => cell_b (c_A1_2) (below_alloc _ o)
        have bc_A1_2 := fun o o1 => cell_b (ac_A1_2 o) (below_alloc _ o1)
        have dc_A1_2 := fun o o1 o2 => cell_b (bc_A1_2 o o1) (below_alloc _ o2)
        have ac_B0_2 := fun o => cell_b (c_B0_2) (below_alloc _ o)
        have bc_B0_2 := fun o o1 => cell_b (ac_B0_2 o) (below_alloc _ o1)
        have dc_B0_2 := fun o o1 o2 => cell_b (bc_B0_2 o o1) (below_alloc _ o2)
        have ac_B1_2 := fun o => cell_b (c_B1_2) (below_alloc _ o)
        have bc_B1_2 := fun o o1 => cell_b (ac_B1_2 o) (below_alloc _ o1)
        have dc_B1_2 := fun o o1 o2 => cell_b (bc_B1_2 o o1) (below_alloc _ o2)
        clear hb r_x_1 r_y_1 T_1
        have HQ1 : Hid (gval d ys = false) := Lib.hid (HG.out)
        go_wp2_with fail
        have hp : ∀ ω1 ω2, (fun w' => w'.cell? ⟨w1.heap.size, 0, none⟩ = some (.int .i64 c) ∧ w'.cell? ⟨w1.heap.size, 1, none⟩ = some (.slice a1 xs.length c1) ∧ w'.cell? ⟨w1.heap.size + 1, 0, none⟩ = some (.int .i64 d) ∧ w'.cell? ⟨w1.heap.size + 1, 1, none⟩ = some (.slice b1 ys.length d1) ∧ RdB w' (w.heap.size) (.slice a1 xs.length c1) (xs) ∧ RdB w' (w.heap.size) (.slice b1 ys.length d1) (ys)) ω1 → Below ω1.heap.size ω1 ω2 → (fun w' => w'.cell? ⟨w1.heap.size, 0, none⟩ = some (.int .i64 c) ∧ w'.cell? ⟨w1.heap.size, 1, none⟩ = some (.slice a1 xs.length c1) ∧ w'.cell? ⟨w1.heap.size + 1, 0, none⟩ = some (.int .i64 d) ∧ w'.cell? ⟨w1.heap.size + 1, 1, none⟩ = some (.slice b1 ys.length d1) ∧ RdB w' (w.heap.size) (.slice a1 xs.length c1) (xs) ∧ RdB w' (w.heap.size) (.slice b1 ys.length d1) (ys)) ω2 := fun _ _ h hb => ⟨cell_b h.1 hb, cell_b h.2.1 hb, cell_b h.2.2.1 hb, cell_b h.2.2.2.1 hb, rdb_b h.2.2.2.2.1 hb, rdb_b h.2.2.2.2.2 hb⟩
        have HP := Lib.hid hp
        clear hp
        refine wp_region_calm (fun w' => w'.cell? ⟨w1.heap.size, 0, none⟩ = some (.int .i64 c) ∧ w'.cell? ⟨w1.heap.size, 1, none⟩ = some (.slice a1 xs.length c1) ∧ w'.cell? ⟨w1.heap.size + 1, 0, none⟩ = some (.int .i64 d) ∧ w'.cell? ⟨w1.heap.size + 1, 1, none⟩ = some (.slice b1 ys.length d1) ∧ RdB w' (w.heap.size) (.slice a1 xs.length c1) (xs) ∧ RdB w' (w.heap.size) (.slice b1 ys.length d1) (ys)) (by kernel_rfl) (by kernel_rfl) ⟨(c_A0_2), (c_A1_2), (c_B0_2), (c_B1_2), (r_x_2.out), (r_y_2.out)⟩ HP.out ?_
        intro hne hs
        (try dsimp only at hs)
        have q_A0 := fun n => (hs n).1
        have q_A1 := fun n => (hs n).2.1
        have q_B0 := fun n => (hs n).2.2.1
        have q_B1 := fun n => (hs n).2.2.2.1
        have Q_x := Lib.hid (fun n => (hs n).2.2.2.2.1)
        have Q_y := Lib.hid (fun n => (hs n).2.2.2.2.2)
        clear hs
        repeat (go_big_quiet_step (first | (go_at_call 14; with_reducible exact calm_of HP.out (S_GroupSame_q _ (c) (d) _ (xs) _ (ys) false (rdb_rd (Q_x.out _)) (rdb_rd (Q_y.out _)) (by first | omega | (simp; done) | (simp; omega)) (by first | omega | (simp; done) | (simp; omega)) HS.out)) | (go_at_call 13; with_reducible exact calm_of HP.out (I_GroupSame_q _ (d) (c) _ (ys) _ (xs) false (rdb_rd (Q_y.out _)) (rdb_rd (Q_x.out _)) (by first | omega | (simp; done) | (simp; omega)) (by first | omega | (simp; done) | (simp; omega)) HS2.out)) | (go_at_call 13; with_reducible exact calm_of HP.out (I_GroupSame_q _ (c) (c) _ (xs) _ (xs) true (rdb_rd (Q_x.out _)) (rdb_rd (Q_x.out _)) (by first | omega | (simp; done) | (simp; omega)) (by first | omega | (simp; done) | (simp; omega)) (by simp [eqB_self]))) | (go_at_call 15; with_reducible exact calm_of HP.out (I_GroupValid_q _ (d) _ (ys)  (false) (rdb_rd (Q_y.out _)) (by first | omega | (simp; done) | (simp; omega)) HQ1.out)) | (go_at_call 16; with_reducible exact calm_of HP.out (S_GroupValid_q _ (d) _ (ys)  (false) (rdb_rd (Q_y.out _)) (by first | omega | (simp; done) | (simp; omega)) HQ1.out))))
        refine wpQuiet_nil ?_
        rintro _ ⟨n, rfl⟩
        go_wp2_with fail
        go_ret
        exact ⟨rfl, below_trans (T_2.out) n.below⟩
end Go.Proofs.Ytgdhbhgkfcgjdaa
