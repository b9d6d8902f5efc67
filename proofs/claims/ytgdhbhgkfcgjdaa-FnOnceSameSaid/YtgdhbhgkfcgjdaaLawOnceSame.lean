/- The law FnOnceSame: the walk. -/
import Derived.Test.YtgdhbhgkfcgjdaaCodeOnce
import Derived.Test.YtgdhbhgkfcgjdaaPlainOnce
import Derived.Test.YtgdhbhgkfcgjdaaCalm
import Derived.Deep.RegionHeld3
import Derived.Deep.DrawnRows
import Derived.Deep.RegionLaw
namespace Go.Proofs.Ytgdhbhgkfcgjdaa
open Go.RowKit
attribute [local go_sem ↓] Go.wp_at_zero Go.wp_at_succ
set_option maxHeartbeats 4000000 in
set_option maxRecDepth 100000 in
theorem W_FnOnceSame (w : World) (v : Value) (n : Nat) (hv : RdY w v n) (hm : n ≤ 9223372036854775807) :
    Calls Try.prog 9 #[v] w fun e w' => e = .returned (.bool true) ∧ Below w.heap.size w w' := by
  have HV := Lib.hid hv
  obtain ⟨a, cap, rfl, hcap, hnc, hr⟩ := hv
  clear hr hnc
  by_cases hbig : 1048576 < n
  · go_enter Try.func9, Try.ntmps9
    go_wp2
    go_ret
    exact ⟨rfl, Below.refl _ _⟩
  · go_enter Try.func9, Try.ntmps9
    have T_0 : Hid (Below w.heap.size w w) := Lib.hid (Below.refl _ _)
    go_wp2_with fail
    (with_reducible refine (S_DrawOnceSame _ _ n HV.out (by omega)).mono ?_)
    rintro e w1 ⟨s, o, k, xs, a1, c1, p, q, z, ys, b1, d1, rfl, hx, hy, hdx, hdy, hb⟩
    have T_1 := Lib.hid (below_trans (T_0.out) hb)
    have z_1 : w.heap.size ≤ w1.heap.size := (by have := hb.size; (try simp at this); omega)
    have r_x_1 := Lib.hid (rdb_mono hdx (show w.heap.size ≤ _ by first | omega | (simp; done) | (simp; omega)))
    have lr_x := Lib.hid (rdb_lo r_x_1.out)
    have hr_x := Lib.hid (rdb_hi r_x_1.out)
    have r_y_1 := Lib.hid (rdb_mono hdy (show w.heap.size ≤ _ by first | omega | (simp; done) | (simp; omega)))
    have lr_y := Lib.hid (rdb_lo r_y_1.out)
    have hr_y := Lib.hid (rdb_hi r_y_1.out)
    clear hb T_0 hdx hdy
    by_cases hs : (decide (s = p) && decide (o = q) && decide (k = z) && eqB xs ys) = true
    · obtain ⟨⟨⟨rfl, rfl⟩, rfl⟩, rfl⟩ : ((s = p ∧ o = q) ∧ k = z) ∧ xs = ys := by simpa [eqB] using hs
      clear hs
      by_cases hg : oval s o k xs = true
      · have HG : Hid (oval s o k xs = true) := Lib.hid (by simpa using hg)
        clear hg
        go_wp2_with fail
        (with_reducible refine (I_OnceSame_q _ (s) (o) (k) (s) (o) (k) _ (xs) _ (xs) true (rdb_rd (rdb_b (rdb_b (r_x_1.out) (below_alloc _ _)) (below_alloc _ _))) (rdb_rd (rdb_b (rdb_b (r_y_1.out) (below_alloc _ _)) (below_alloc _ _))) (by first | omega | (simp; done) | (simp; omega)) (by first | omega | (simp; done) | (simp; omega)) (by simp [eqB_self])).mono ?_)
        rintro e w2 ⟨rfl, hb⟩
        have c_A0_2 := cell_b (p := ⟨w1.heap.size, 0, none⟩) (v := .int .i64 s) (by first | (simp; done) | (simp [World.cell?_alloc_past, World.cell?_alloc_at]; done)) hb
        have c_A1_2 := cell_b (p := ⟨w1.heap.size, 1, none⟩) (v := .int .i64 o) (by first | (simp; done) | (simp [World.cell?_alloc_past, World.cell?_alloc_at]; done)) hb
        have c_A2_2 := cell_b (p := ⟨w1.heap.size, 2, none⟩) (v := .int .i64 k) (by first | (simp; done) | (simp [World.cell?_alloc_past, World.cell?_alloc_at]; done)) hb
        have c_A3_2 := cell_b (p := ⟨w1.heap.size, 3, none⟩) (v := .slice a1 xs.length c1) (by first | (simp; done) | (simp [World.cell?_alloc_past, World.cell?_alloc_at]; done)) hb
        have c_B0_2 := cell_b (p := ⟨w1.heap.size + 1, 0, none⟩) (v := .int .i64 s) (by first | (simp; done) | (simp [World.cell?_alloc_past, World.cell?_alloc_at]; done)) hb
        have c_B1_2 := cell_b (p := ⟨w1.heap.size + 1, 1, none⟩) (v := .int .i64 o) (by first | (simp; done) | (simp [World.cell?_alloc_past, World.cell?_alloc_at]; done)) hb
        have c_B2_2 := cell_b (p := ⟨w1.heap.size + 1, 2, none⟩) (v := .int .i64 k) (by first | (simp; done) | (simp [World.cell?_alloc_past, World.cell?_alloc_at]; done)) hb
        have c_B3_2 := cell_b (p := ⟨w1.heap.size + 1, 3, none⟩) (v := .slice b1 xs.length d1) (by first | (simp; done) | (simp [World.cell?_alloc_past, World.cell?_alloc_at]; done)) hb
        have r_x_2 := Lib.hid (rdb_b (rdb_b (rdb_b (r_x_1.out) (below_alloc _ _)) (below_alloc _ _)) hb)
        have r_y_2 := Lib.hid (rdb_b (rdb_b (rdb_b (r_y_1.out) (below_alloc _ _)) (below_alloc _ _)) hb)
        have T_2 := Lib.hid (below_trans (below_trans (below_trans (T_1.out) (below_alloc _ _)) (below_alloc _ _)) hb)
        have z_2 : w1.heap.size + 2 ≤ w2.heap.size := (by have := hb.size; (try simp at this); omega)
        have ac_A0_2 := fun o => cell_b (c_A0_2) (below_alloc _ o)
        have bc_A0_2 := fun o o1 => cell_b (ac_A0_2 o) (below_alloc _ o1)
        have dc_A0_2 := fun o o1 o2 => cell_b (bc_A0_2 o o1) (below_alloc _ o2)
        have ac_A1_2 := fun o => cell_b (c_A1_2) (below_alloc _ o)
        have bc_A1_2 := fun o o1 => cell_b (ac_A1_2 o) (below_alloc _ o1)
        have dc_A1_2 := fun o o1 o2 => cell_b (bc_A1_2 o o1) (below_alloc _ o2)
        have ac_A2_2 := fun o => cell_b (c_A2_2) (below_alloc _ o)
        have bc_A2_2 := fun o o1 => cell_b (ac_A2_2 o) (below_alloc _ o1)
        have dc_A2_2 := fun o o1 o2 => cell_b (bc_A2_2 o o1) (below_alloc _ o2)
        have ac_A3_2 := fun o => cell_b (c_A3_2) (below_alloc _ o)
        have bc_A3_2 := fun o o1 => cell_b (ac_A3_2 o) (below_alloc _ o1)
        have dc_A3_2 := fun o o1 o2 => cell_b (bc_A3_2 o o1) (below_alloc _ o2)
        have ac_B0_2 := fun o => cell_b (c_B0_2) (below_alloc _ o)
        have bc_B0_2 := fun o o1 => cell_b (ac_B0_2 o) (below_alloc _ o1)
        have dc_B0_2 := fun o o1 o2 => cell_b (bc_B0_2 o o1) (below_alloc _ o2)
        have ac_B1_2 := fun o => cell_b (c_B1_2) (below_alloc _ o)
        have bc_B1_2 := fun o o1 => cell_b (ac_B1_2 o) (below_alloc _ o1)
        have dc_B1_2 := fun o o1 o2 => cell_b (bc_B1_2 o o1) (below_alloc _ o2)
        have ac_B2_2 := fun o => cell_b (c_B2_2) (below_alloc _ o)
        have bc_B2_2 := fun o o1 => cell_b (ac_B2_2 o) (below_alloc _ o1)
        have dc_B2_2 := fun o o1 o2 => cell_b (bc_B2_2 o o1) (below_alloc _ o2)
        have ac_B3_2 := fun o => cell_b (c_B3_2) (below_alloc _ o)
        have bc_B3_2 := fun o o1 => cell_b (ac_B3_2 o) (below_alloc _ o1)
        have dc_B3_2 := fun o o1 o2 => cell_b (bc_B3_2 o o1) (below_alloc _ o2)
        clear hb r_x_1 r_y_1 T_1
        have HQ1 : Hid (oval s o k xs = true) := Lib.hid (HG.out)
        go_wp2_with fail
        have hp : ∀ ω1 ω2, (fun w' => w'.cell? ⟨w1.heap.size, 0, none⟩ = some (.int .i64 s) ∧ w'.cell? ⟨w1.heap.size, 1, none⟩ = some (.int .i64 o) ∧ w'.cell? ⟨w1.heap.size, 2, none⟩ = some (.int .i64 k) ∧ w'.cell? ⟨w1.heap.size, 3, none⟩ = some (.slice a1 xs.length c1) ∧ w'.cell? ⟨w1.heap.size + 1, 0, none⟩ = some (.int .i64 s) ∧ w'.cell? ⟨w1.heap.size + 1, 1, none⟩ = some (.int .i64 o) ∧ w'.cell? ⟨w1.heap.size + 1, 2, none⟩ = some (.int .i64 k) ∧ w'.cell? ⟨w1.heap.size + 1, 3, none⟩ = some (.slice b1 xs.length d1) ∧ RdB w' (w.heap.size) (.slice a1 xs.length c1) (xs) ∧ RdB w' (w.heap.size) (.slice b1 xs.length d1) (xs)) ω1 → Below ω1.heap.size ω1 ω2 → (fun w' => w'.cell? ⟨w1.heap.size, 0, none⟩ = some (.int .i64 s) ∧ w'.cell? ⟨w1.heap.size, 1, none⟩ = some (.int .i64 o) ∧ w'.cell? ⟨w1.heap.size, 2, none⟩ = some (.int .i64 k) ∧ w'.cell? ⟨w1.heap.size, 3, none⟩ = some (.slice a1 xs.length c1) ∧ w'.cell? ⟨w1.heap.size + 1, 0, none⟩ = some (.int .i64 s) ∧ w'.cell? ⟨w1.heap.size + 1, 1, none⟩ = some (.int .i64 o) ∧ w'.cell? ⟨w1.heap.size + 1, 2, none⟩ = some (.int .i64 k) ∧ w'.cell? ⟨w1.heap.size + 1, 3, none⟩ = some (.slice b1 xs.length d1) ∧ RdB w' (w.heap.size) (.slice a1 xs.length c1) (xs) ∧ RdB w' (w.heap.size) (.slice b1 xs.length d1) (xs)) ω2 := fun _ _ h hb => ⟨cell_b h.1 hb, cell_b h.2.1 hb, cell_b h.2.2.1 hb, cell_b h.2.2.2.1 hb, cell_b h.2.2.2.2.1 hb, cell_b h.2.2.2.2.2.1 hb, cell_b h.2.2.2.2.2.2.1 hb, cell_b h.2.2.2.2.2.2.2.1 hb, rdb_b h.2.2.2.2.2.2.2.2.1 hb, rdb_b h.2.2.2.2.2.2.2.2.2 hb⟩
        have HP := Lib.hid hp
        clear hp
        refine wp_region_calm (fun w' => w'.cell? ⟨w1.heap.size, 0, none⟩ = some (.int .i64 s) ∧ w'.cell? ⟨w1.heap.size, 1, none⟩ = some (.int .i64 o) ∧ w'.cell? ⟨w1.heap.size, 2, none⟩ = some (.int .i64 k) ∧ w'.cell? ⟨w1.heap.size, 3, none⟩ = some (.slice a1 xs.length c1) ∧ w'.cell? ⟨w1.heap.size + 1, 0, none⟩ = some (.int .i64 s) ∧ w'.cell? ⟨w1.heap.size + 1, 1, none⟩ = some (.int .i64 o) ∧ w'.cell? ⟨w1.heap.size + 1, 2, none⟩ = some (.int .i64 k) ∧ w'.cell? ⟨w1.heap.size + 1, 3, none⟩ = some (.slice b1 xs.length d1) ∧ RdB w' (w.heap.size) (.slice a1 xs.length c1) (xs) ∧ RdB w' (w.heap.size) (.slice b1 xs.length d1) (xs)) (by kernel_rfl) (by kernel_rfl) ⟨(c_A0_2), (c_A1_2), (c_A2_2), (c_A3_2), (c_B0_2), (c_B1_2), (c_B2_2), (c_B3_2), (r_x_2.out), (r_y_2.out)⟩ HP.out ?_
        intro hne hs
        (try dsimp only at hs)
        have q_A0 := fun n => (hs n).1
        have q_A1 := fun n => (hs n).2.1
        have q_A2 := fun n => (hs n).2.2.1
        have q_A3 := fun n => (hs n).2.2.2.1
        have q_B0 := fun n => (hs n).2.2.2.2.1
        have q_B1 := fun n => (hs n).2.2.2.2.2.1
        have q_B2 := fun n => (hs n).2.2.2.2.2.2.1
        have q_B3 := fun n => (hs n).2.2.2.2.2.2.2.1
        have Q_x := Lib.hid (fun n => (hs n).2.2.2.2.2.2.2.2.1)
        have Q_y := Lib.hid (fun n => (hs n).2.2.2.2.2.2.2.2.2)
        clear hs
        repeat (go_big_quiet_step (first | (go_at_call 26; with_reducible exact calm_of HP.out (S_OnceSame_q _ (s) (o) (k) (s) (o) (k) _ (xs) _ (xs) true (rdb_rd (Q_x.out _)) (rdb_rd (Q_y.out _)) (by first | omega | (simp; done) | (simp; omega)) (by first | omega | (simp; done) | (simp; omega)) (by simp [eqB_self]))) | (go_at_call 25; with_reducible exact calm_of HP.out (I_OnceSame_q _ (s) (o) (k) (s) (o) (k) _ (xs) _ (xs) true (rdb_rd (Q_y.out _)) (rdb_rd (Q_x.out _)) (by first | omega | (simp; done) | (simp; omega)) (by first | omega | (simp; done) | (simp; omega)) (by simp [eqB_self]))) | (go_at_call 25; with_reducible exact calm_of HP.out (I_OnceSame_q _ (s) (o) (k) (s) (o) (k) _ (xs) _ (xs) true (rdb_rd (Q_x.out _)) (rdb_rd (Q_x.out _)) (by first | omega | (simp; done) | (simp; omega)) (by first | omega | (simp; done) | (simp; omega)) (by simp [eqB_self]))) | (go_at_call 27; with_reducible exact calm_of HP.out (I_OnceValid_q _ (s) (o) (k) _ (xs)  (true) (rdb_rd (Q_x.out _)) (by first | omega | (simp; done) | (simp; omega)) HQ1.out)) | (go_at_call 27; with_reducible exact calm_of HP.out (I_OnceValid_q _ (s) (o) (k) _ (xs)  (true) (rdb_rd (Q_y.out _)) (by first | omega | (simp; done) | (simp; omega)) HQ1.out)) | (go_at_call 28; with_reducible exact calm_of HP.out (S_OnceValid_q _ (s) (o) (k) _ (xs)  (true) (rdb_rd (Q_y.out _)) (by first | omega | (simp; done) | (simp; omega)) HQ1.out))))
        refine wpQuiet_nil ?_
        rintro _ ⟨n, rfl⟩
        go_wp2_with fail
        go_ret
        exact ⟨rfl, below_trans (T_2.out) n.below⟩
      · have HG : Hid (oval s o k xs = false) := Lib.hid (by simpa using hg)
        clear hg
        go_wp2_with fail
        (with_reducible refine (I_OnceSame_q _ (s) (o) (k) (s) (o) (k) _ (xs) _ (xs) true (rdb_rd (rdb_b (rdb_b (r_x_1.out) (below_alloc _ _)) (below_alloc _ _))) (rdb_rd (rdb_b (rdb_b (r_y_1.out) (below_alloc _ _)) (below_alloc _ _))) (by first | omega | (simp; done) | (simp; omega)) (by first | omega | (simp; done) | (simp; omega)) (by simp [eqB_self])).mono ?_)
        rintro e w2 ⟨rfl, hb⟩
        have c_A0_2 := cell_b (p := ⟨w1.heap.size, 0, none⟩) (v := .int .i64 s) (by first | (simp; done) | (simp [World.cell?_alloc_past, World.cell?_alloc_at]; done)) hb
        have c_A1_2 := cell_b (p := ⟨w1.heap.size, 1, none⟩) (v := .int .i64 o) (by first | (simp; done) | (simp [World.cell?_alloc_past, World.cell?_alloc_at]; done)) hb
        have c_A2_2 := cell_b (p := ⟨w1.heap.size, 2, none⟩) (v := .int .i64 k) (by first | (simp; done) | (simp [World.cell?_alloc_past, World.cell?_alloc_at]; done)) hb
        have c_A3_2 := cell_b (p := ⟨w1.heap.size, 3, none⟩) (v := .slice a1 xs.length c1) (by first | (simp; done) | (simp [World.cell?_alloc_past, World.cell?_alloc_at]; done)) hb
        have c_B0_2 := cell_b (p := ⟨w1.heap.size + 1, 0, none⟩) (v := .int .i64 s) (by first | (simp; done) | (simp [World.cell?_alloc_past, World.cell?_alloc_at]; done)) hb
        have c_B1_2 := cell_b (p := ⟨w1.heap.size + 1, 1, none⟩) (v := .int .i64 o) (by first | (simp; done) | (simp [World.cell?_alloc_past, World.cell?_alloc_at]; done)) hb
        have c_B2_2 := cell_b (p := ⟨w1.heap.size + 1, 2, none⟩) (v := .int .i64 k) (by first | (simp; done) | (simp [World.cell?_alloc_past, World.cell?_alloc_at]; done)) hb
        have c_B3_2 := cell_b (p := ⟨w1.heap.size + 1, 3, none⟩) (v := .slice b1 xs.length d1) (by first | (simp; done) | (simp [World.cell?_alloc_past, World.cell?_alloc_at]; done)) hb
        have r_x_2 := Lib.hid (rdb_b (rdb_b (rdb_b (r_x_1.out) (below_alloc _ _)) (below_alloc _ _)) hb)
        have r_y_2 := Lib.hid (rdb_b (rdb_b (rdb_b (r_y_1.out) (below_alloc _ _)) (below_alloc _ _)) hb)
        have T_2 := Lib.hid (below_trans (below_trans (below_trans (T_1.out) (below_alloc _ _)) (below_alloc _ _)) hb)
        have z_2 : w1.heap.size + 2 ≤ w2.heap.size := (by have := hb.size; (try simp at this); omega)
        have ac_A0_2 := fun o => cell_b (c_A0_2) (below_alloc _ o)
        have bc_A0_2 := fun o o1 => cell_b (ac_A0_2 o) (below_alloc _ o1)
        have dc_A0_2 := fun o o1 o2 => cell_b (bc_A0_2 o o1) (below_alloc _ o2)
        have ac_A1_2 := fun o => cell_b (c_A1_2) (below_alloc _ o)
        have bc_A1_2 := fun o o1 => cell_b (ac_A1_2 o) (below_alloc _ o1)
        have dc_A1_2 := fun o o1 o2 => cell_b (bc_A1_2 o o1) (below_alloc _ o2)
        have ac_A2_2 := fun o => cell_b (c_A2_2) (below_alloc _ o)
        have bc_A2_2 := fun o o1 => cell_b (ac_A2_2 o) (below_alloc _ o1)
        have dc_A2_2 := fun o o1 o2 => cell_b (bc_A2_2 o o1) (below_alloc _ o2)
        have ac_A3_2 := fun o => cell_b (c_A3_2) (below_alloc _ o)
        have bc_A3_2 := fun o o1 => cell_b (ac_A3_2 o) (below_alloc _ o1)
        have dc_A3_2 := fun o o1 o2 => cell_b (bc_A3_2 o o1) (below_alloc _ o2)
        have ac_B0_2 := fun o => cell_b (c_B0_2) (below_alloc _ o)
        have bc_B0_2 := fun o o1 => cell_b (ac_B0_2 o) (below_alloc _ o1)
        have dc_B0_2 := fun o o1 o2 => cell_b (bc_B0_2 o o1) (below_alloc _ o2)
        have ac_B1_2 := fun o => cell_b (c_B1_2) (below_alloc _ o)
        have bc_B1_2 := fun o o1 => cell_b (ac_B1_2 o) (below_alloc _ o1)
        have dc_B1_2 := fun o o1 o2 => cell_b (bc_B1_2 o o1) (below_alloc _ o2)
        have ac_B2_2 := fun o => cell_b (c_B2_2) (below_alloc _ o)
        have bc_B2_2 := fun o o1 => cell_b (ac_B2_2 o) (below_alloc _ o1)
        have dc_B2_2 := fun o o1 o2 => cell_b (bc_B2_2 o o1) (below_alloc _ o2)
        have ac_B3_2 := fun o => cell_b (c_B3_2) (below_alloc _ o)
        have bc_B3_2 := fun o o1 => cell_b (ac_B3_2 o) (below_alloc _ o1)
        have dc_B3_2 := fun o o1 o2 => cell_b (bc_B3_2 o o1) (below_alloc _ o2)
        clear hb r_x_1 r_y_1 T_1
        have HQ1 : Hid (oval s o k xs = false) := Lib.hid (HG.out)
        go_wp2_with fail
        have hp : ∀ ω1 ω2, (fun w' => w'.cell? ⟨w1.heap.size, 0, none⟩ = some (.int .i64 s) ∧ w'.cell? ⟨w1.heap.size, 1, none⟩ = some (.int .i64 o) ∧ w'.cell? ⟨w1.heap.size, 2, none⟩ = some (.int .i64 k) ∧ w'.cell? ⟨w1.heap.size, 3, none⟩ = some (.slice a1 xs.length c1) ∧ w'.cell? ⟨w1.heap.size + 1, 0, none⟩ = some (.int .i64 s) ∧ w'.cell? ⟨w1.heap.size + 1, 1, none⟩ = some (.int .i64 o) ∧ w'.cell? ⟨w1.heap.size + 1, 2, none⟩ = some (.int .i64 k) ∧ w'.cell? ⟨w1.heap.size + 1, 3, none⟩ = some (.slice b1 xs.length d1) ∧ RdB w' (w.heap.size) (.slice a1 xs.length c1) (xs) ∧ RdB w' (w.heap.size) (.slice b1 xs.length d1) (xs)) ω1 → Below ω1.heap.size ω1 ω2 → (fun w' => w'.cell? ⟨w1.heap.size, 0, none⟩ = some (.int .i64 s) ∧ w'.cell? ⟨w1.heap.size, 1, none⟩ = some (.int .i64 o) ∧ w'.cell? ⟨w1.heap.size, 2, none⟩ = some (.int .i64 k) ∧ w'.cell? ⟨w1.heap.size, 3, none⟩ = some (.slice a1 xs.length c1) ∧ w'.cell? ⟨w1.heap.size + 1, 0, none⟩ = some (.int .i64 s) ∧ w'.cell? ⟨w1.heap.size + 1, 1, none⟩ = some (.int .i64 o) ∧ w'.cell? ⟨w1.heap.size + 1, 2, none⟩ = some (.int .i64 k) ∧ w'.cell? ⟨w1.heap.size + 1, 3, none⟩ = some (.slice b1 xs.length d1) ∧ RdB w' (w.heap.size) (.slice a1 xs.length c1) (xs) ∧ RdB w' (w.heap.size) (.slice b1 xs.length d1) (xs)) ω2 := fun _ _ h hb => ⟨cell_b h.1 hb, cell_b h.2.1 hb, cell_b h.2.2.1 hb, cell_b h.2.2.2.1 hb, cell_b h.2.2.2.2.1 hb, cell_b h.2.2.2.2.2.1 hb, cell_b h.2.2.2.2.2.2.1 hb, cell_b h.2.2.2.2.2.2.2.1 hb, rdb_b h.2.2.2.2.2.2.2.2.1 hb, rdb_b h.2.2.2.2.2.2.2.2.2 hb⟩
        have HP := Lib.hid hp
        clear hp
        refine wp_region_calm (fun w' => w'.cell? ⟨w1.heap.size, 0, none⟩ = some (.int .i64 s) ∧ w'.cell? ⟨w1.heap.size, 1, none⟩ = some (.int .i64 o) ∧ w'.cell? ⟨w1.heap.size, 2, none⟩ = some (.int .i64 k) ∧ w'.cell? ⟨w1.heap.size, 3, none⟩ = some (.slice a1 xs.length c1) ∧ w'.cell? ⟨w1.heap.size + 1, 0, none⟩ = some (.int .i64 s) ∧ w'.cell? ⟨w1.heap.size + 1, 1, none⟩ = some (.int .i64 o) ∧ w'.cell? ⟨w1.heap.size + 1, 2, none⟩ = some (.int .i64 k) ∧ w'.cell? ⟨w1.heap.size + 1, 3, none⟩ = some (.slice b1 xs.length d1) ∧ RdB w' (w.heap.size) (.slice a1 xs.length c1) (xs) ∧ RdB w' (w.heap.size) (.slice b1 xs.length d1) (xs)) (by kernel_rfl) (by kernel_rfl) ⟨(c_A0_2), (c_A1_2), (c_A2_2), (c_A3_2), (c_B0_2), (c_B1_2), (c_B2_2), (c_B3_2), (r_x_2.out), (r_y_2.out)⟩ HP.out ?_
        intro hne hs
        (try dsimp only at hs)
        have q_A0 := fun n => (hs n).1
        have q_A1 := fun n => (hs n).2.1
        have q_A2 := fun n => (hs n).2.2.1
        have q_A3 := fun n => (hs n).2.2.2.1
        have q_B0 := fun n => (hs n).2.2.2.2.1
        have q_B1 := fun n => (hs n).2.2.2.2.2.1
        have q_B2 := fun n => (hs n).2.2.2.2.2.2.1
        have q_B3 := fun n => (hs n).2.2.2.2.2.2.2.1
        have Q_x := Lib.hid (fun n => (hs n).2.2.2.2.2.2.2.2.1)
        have Q_y := Lib.hid (fun n => (hs n).2.2.2.2.2.2.2.2.2)
        clear hs
        repeat (go_big_quiet_step (first | (go_at_call 26; with_reducible exact calm_of HP.out (S_OnceSame_q _ (s) (o) (k) (s) (o) (k) _ (xs) _ (xs) true (rdb_rd (Q_x.out _)) (rdb_rd (Q_y.out _)) (by first | omega | (simp; done) | (simp; omega)) (by first | omega | (simp; done) | (simp; omega)) (by simp [eqB_self]))) | (go_at_call 25; with_reducible exact calm_of HP.out (I_OnceSame_q _ (s) (o) (k) (s) (o) (k) _ (xs) _ (xs) true (rdb_rd (Q_y.out _)) (rdb_rd (Q_x.out _)) (by first | omega | (simp; done) | (simp; omega)) (by first | omega | (simp; done) | (simp; omega)) (by simp [eqB_self]))) | (go_at_call 25; with_reducible exact calm_of HP.out (I_OnceSame_q _ (s) (o) (k) (s) (o) (k) _ (xs) _ (xs) true (rdb_rd (Q_x.out _)) (rdb_rd (Q_x.out _)) (by first | omega | (simp; done) | (simp; omega)) (by first | omega | (simp; done) | (simp; omega)) (by simp [eqB_self]))) | (go_at_call 27; with_reducible exact calm_of HP.out (I_OnceValid_q _ (s) (o) (k) _ (xs)  (false) (rdb_rd (Q_x.out _)) (by first | omega | (simp; done) | (simp; omega)) HQ1.out)) | (go_at_call 27; with_reducible exact calm_of HP.out (I_OnceValid_q _ (s) (o) (k) _ (xs)  (false) (rdb_rd (Q_y.out _)) (by first | omega | (simp; done) | (simp; omega)) HQ1.out)) | (go_at_call 28; with_reducible exact calm_of HP.out (S_OnceValid_q _ (s) (o) (k) _ (xs)  (false) (rdb_rd (Q_y.out _)) (by first | omega | (simp; done) | (simp; omega)) HQ1.out))))
        refine wpQuiet_nil ?_
        rintro _ ⟨n, rfl⟩
        go_wp2_with fail
        go_ret
        exact ⟨rfl, below_trans (T_2.out) n.below⟩
    · by_cases hg : oval p q z ys = true
      · have HG : Hid (oval p q z ys = true) := Lib.hid (by simpa using hg)
        clear hg
        have HS : Hid ((decide (s = p) && decide (o = q) && decide (k = z) && eqB xs ys) = false) := Lib.hid (by simpa using hs)
        have HS2 : Hid ((decide (p = s) && decide (q = o) && decide (z = k) && eqB ys xs) = false) := Lib.hid (by rw [same_sym3]; exact HS.out)
        clear hs
        go_wp2_with fail
        (with_reducible refine (I_OnceSame_q _ (s) (o) (k) (p) (q) (z) _ (xs) _ (ys) false (rdb_rd (rdb_b (rdb_b (r_x_1.out) (below_alloc _ _)) (below_alloc _ _))) (rdb_rd (rdb_b (rdb_b (r_y_1.out) (below_alloc _ _)) (below_alloc _ _))) (by first | omega | (simp; done) | (simp; omega)) (by first | omega | (simp; done) | (simp; omega)) HS.out).mono ?_)
        rintro e w2 ⟨rfl, hb⟩
        have c_A0_2 := cell_b (p := ⟨w1.heap.size, 0, none⟩) (v := .int .i64 s) (by first | (simp; done) | (simp [World.cell?_alloc_past, World.cell?_alloc_at]; done)) hb
        have c_A1_2 := cell_b (p := ⟨w1.heap.size, 1, none⟩) (v := .int .i64 o) (by first | (simp; done) | (simp [World.cell?_alloc_past, World.cell?_alloc_at]; done)) hb
        have c_A2_2 := cell_b (p := ⟨w1.heap.size, 2, none⟩) (v := .int .i64 k) (by first | (simp; done) | (simp [World.cell?_alloc_past, World.cell?_alloc_at]; done)) hb
        have c_A3_2 := cell_b (p := ⟨w1.heap.size, 3, none⟩) (v := .slice a1 xs.length c1) (by first | (simp; done) | (simp [World.cell?_alloc_past, World.cell?_alloc_at]; done)) hb
        have c_B0_2 := cell_b (p := ⟨w1.heap.size + 1, 0, none⟩) (v := .int .i64 p) (by first | (simp; done) | (simp [World.cell?_alloc_past, World.cell?_alloc_at]; done)) hb
        have c_B1_2 := cell_b (p := ⟨w1.heap.size + 1, 1, none⟩) (v := .int .i64 q) (by first | (simp; done) | (simp [World.cell?_alloc_past, World.cell?_alloc_at]; done)) hb
        have c_B2_2 := cell_b (p := ⟨w1.heap.size + 1, 2, none⟩) (v := .int .i64 z) (by first | (simp; done) | (simp [World.cell?_alloc_past, World.cell?_alloc_at]; done)) hb
        have c_B3_2 := cell_b (p := ⟨w1.heap.size + 1, 3, none⟩) (v := .slice b1 ys.length d1) (by first | (simp; done) | (simp [World.cell?_alloc_past, World.cell?_alloc_at]; done)) hb
        have r_x_2 := Lib.hid (rdb_b (rdb_b (rdb_b (r_x_1.out) (below_alloc _ _)) (below_alloc _ _)) hb)
        have r_y_2 := Lib.hid (rdb_b (rdb_b (rdb_b (r_y_1.out) (below_alloc _ _)) (below_alloc _ _)) hb)
        have T_2 := Lib.hid (below_trans (below_trans (below_trans (T_1.out) (below_alloc _ _)) (below_alloc _ _)) hb)
        have z_2 : w1.heap.size + 2 ≤ w2.heap.size := (by have := hb.size; (try simp at this); omega)
        have ac_A0_2 := fun o => cell_b (c_A0_2) (below_alloc _ o)
        have bc_A0_2 := fun o o1 => cell_b (ac_A0_2 o) (below_alloc _ o1)
        have dc_A0_2 := fun o o1 o2 => cell_b (bc_A0_2 o o1) (below_alloc _ o2)
        have ac_A1_2 := fun o => cell_b (c_A1_2) (below_alloc _ o)
        have bc_A1_2 := fun o o1 => cell_b (ac_A1_2 o) (below_alloc _ o1)
        have dc_A1_2 := fun o o1 o2 => cell_b (bc_A1_2 o o1) (below_alloc _ o2)
        have ac_A2_2 := fun o => cell_b (c_A2_2) (below_alloc _ o)
        have bc_A2_2 := fun o o1 => cell_b (ac_A2_2 o) (below_alloc _ o1)
        have dc_A2_2 := fun o o1 o2 => cell_b (bc_A2_2 o o1) (below_alloc _ o2)
        have ac_A3_2 := fun o => cell_b (c_A3_2) (below_alloc _ o)
        have bc_A3_2 := fun o o1 => cell_b (ac_A3_2 o) (below_alloc _ o1)
        have dc_A3_2 := fun o o1 o2 => cell_b (bc_A3_2 o o1) (below_alloc _ o2)
        have ac_B0_2 := fun o => cell_b (c_B0_2) (below_alloc _ o)
        have bc_B0_2 := fun o o1 => cell_b (ac_B0_2 o) (below_alloc _ o1)
        have dc_B0_2 := fun o o1 o2 => cell_b (bc_B0_2 o o1) (below_alloc _ o2)
        have ac_B1_2 := fun o => cell_b (c_B1_2) (below_alloc _ o)
        have bc_B1_2 := fun o o1 => cell_b (ac_B1_2 o) (below_alloc _ o1)
        have dc_B1_2 := fun o o1 o2 => cell_b (bc_B1_2 o o1) (below_alloc _ o2)
        have ac_B2_2 := fun o => cell_b (c_B2_2) (below_alloc _ o)
        have bc_B2_2 := fun o o1 => cell_b (ac_B2_2 o) (below_alloc _ o1)
        have dc_B2_2 := fun o o1 o2 => cell_b (bc_B2_2 o o1) (below_alloc _ o2)
        have ac_B3_2 := fun o => cell_b (c_B3_2) (below_alloc _ o)
        have bc_B3_2 := fun o o1 => cell_b (ac_B3_2 o) (below_alloc _ o1)
        have dc_B3_2 := fun o o1 o2 => cell_b (bc_B3_2 o o1) (below_alloc _ o2)
        clear hb r_x_1 r_y_1 T_1
        have HQ1 : Hid (oval p q z ys = true) := Lib.hid (HG.out)
        go_wp2_with fail
        have hp : ∀ ω1 ω2, (fun w' => w'.cell? ⟨w1.heap.size, 0, none⟩ = some (.int .i64 s) ∧ w'.cell? ⟨w1.heap.size, 1, none⟩ = some (.int .i64 o) ∧ w'.cell? ⟨w1.heap.size, 2, none⟩ = some (.int .i64 k) ∧ w'.cell? ⟨w1.heap.size, 3, none⟩ = some (.slice a1 xs.length c1) ∧ w'.cell? ⟨w1.heap.size + 1, 0, none⟩ = some (.int .i64 p) ∧ w'.cell? ⟨w1.heap.size + 1, 1, none⟩ = some (.int .i64 q) ∧ w'.cell? ⟨w1.heap.size + 1, 2, none⟩ = some (.int .i64 z) ∧ w'.cell? ⟨w1.heap.size + 1, 3, none⟩ = some (.slice b1 ys.length d1) ∧ RdB w' (w.heap.size) (.slice a1 xs.length c1) (xs) ∧ RdB w' (w.heap.size) (.slice b1 ys.length d1) (ys)) ω1 → Below ω1.heap.size ω1 ω2 → (fun w' => w'.cell? ⟨w1.heap.size, 0, none⟩ = some (.int .i64 s) ∧ w'.cell? ⟨w1.heap.size, 1, none⟩ = some (.int .i64 o) ∧ w'.cell? ⟨w1.heap.size, 2, none⟩ = some (.int .i64 k) ∧ w'.cell? ⟨w1.heap.size, 3, none⟩ = some (.slice a1 xs.length c1) ∧ w'.cell? ⟨w1.heap.size + 1, 0, none⟩ = some (.int .i64 p) ∧ w'.cell? ⟨w1.heap.size + 1, 1, none⟩ = some (.int .i64 q) ∧ w'.cell? ⟨w1.heap.size + 1, 2, none⟩ = some (.int .i64 z) ∧ w'.cell? ⟨w1.heap.size + 1, 3, none⟩ = some (.slice b1 ys.length d1) ∧ RdB w' (w.heap.size) (.slice a1 xs.length c1) (xs) ∧ RdB w' (w.heap.size) (.slice b1 ys.length d1) (ys)) ω2 := fun _ _ h hb => ⟨cell_b h.1 hb, cell_b h.2.1 hb, cell_b h.2.2.1 hb, cell_b h.2.2.2.1 hb, cell_b h.2.2.2.2.1 hb, cell_b h.2.2.2.2.2.1 hb, cell_b h.2.2.2.2.2.2.1 hb, cell_b h.2.2.2.2.2.2.2.1 hb, rdb_b h.2.2.2.2.2.2.2.2.1 hb, rdb_b h.2.2.2.2.2.2.2.2.2 hb⟩
        have HP := Lib.hid hp
        clear hp
        refine wp_region_calm (fun w' => w'.cell? ⟨w1.heap.size, 0, none⟩ = some (.int .i64 s) ∧ w'.cell? ⟨w1.heap.size, 1, none⟩ = some (.int .i64 o) ∧ w'.cell? ⟨w1.heap.size, 2, none⟩ = some (.int .i64 k) ∧ w'.cell? ⟨w1.heap.size, 3, none⟩ = some (.slice a1 xs.length c1) ∧ w'.cell? ⟨w1.heap.size + 1, 0, none⟩ = some (.int .i64 p) ∧ w'.cell? ⟨w1.heap.size + 1, 1, none⟩ = some (.int .i64 q) ∧ w'.cell? ⟨w1.heap.size + 1, 2, none⟩ = some (.int .i64 z) ∧ w'.cell? ⟨w1.heap.size + 1, 3, none⟩ = some (.slice b1 ys.length d1) ∧ RdB w' (w.heap.size) (.slice a1 xs.length c1) (xs) ∧ RdB w' (w.heap.size) (.slice b1 ys.length d1) (ys)) (by kernel_rfl) (by kernel_rfl) ⟨(c_A0_2), (c_A1_2), (c_A2_2), (c_A3_2), (c_B0_2), (c_B1_2), (c_B2_2), (c_B3_2), (r_x_2.out), (r_y_2.out)⟩ HP.out ?_
        intro hne hs
        (try dsimp only at hs)
        have q_A0 := fun n => (hs n).1
        have q_A1 := fun n => (hs n).2.1
        have q_A2 := fun n => (hs n).2.2.1
        have q_A3 := fun n => (hs n).2.2.2.1
        have q_B0 := fun n => (hs n).2.2.2.2.1
        have q_B1 := fun n => (hs n).2.2.2.2.2.1
        have q_B2 := fun n => (hs n).2.2.2.2.2.2.1
        have q_B3 := fun n => (hs n).2.2.2.2.2.2.2.1
        have Q_x := Lib.hid (fun n => (hs n).2.2.2.2.2.2.2.2.1)
        have Q_y := Lib.hid (fun n => (hs n).2.2.2.2.2.2.2.2.2)
        clear hs
        repeat (go_big_quiet_step (first | (go_at_call 26; with_reducible exact calm_of HP.out (S_OnceSame_q _ (s) (o) (k) (p) (q) (z) _ (xs) _ (ys) false (rdb_rd (Q_x.out _)) (rdb_rd (Q_y.out _)) (by first | omega | (simp; done) | (simp; omega)) (by first | omega | (simp; done) | (simp; omega)) HS.out)) | (go_at_call 25; with_reducible exact calm_of HP.out (I_OnceSame_q _ (p) (q) (z) (s) (o) (k) _ (ys) _ (xs) false (rdb_rd (Q_y.out _)) (rdb_rd (Q_x.out _)) (by first | omega | (simp; done) | (simp; omega)) (by first | omega | (simp; done) | (simp; omega)) HS2.out)) | (go_at_call 25; with_reducible exact calm_of HP.out (I_OnceSame_q _ (s) (o) (k) (s) (o) (k) _ (xs) _ (xs) true (rdb_rd (Q_x.out _)) (rdb_rd (Q_x.out _)) (by first | omega | (simp; done) | (simp; omega)) (by first | omega | (simp; done) | (simp; omega)) (by simp [eqB_self]))) | (go_at_call 27; with_reducible exact calm_of HP.out (I_OnceValid_q _ (p) (q) (z) _ (ys)  (true) (rdb_rd (Q_y.out _)) (by first | omega | (simp; done) | (simp; omega)) HQ1.out)) | (go_at_call 28; with_reducible exact calm_of HP.out (S_OnceValid_q _ (p) (q) (z) _ (ys)  (true) (rdb_rd (Q_y.out _)) (by first | omega | (simp; done) | (simp; omega)) HQ1.out))))
        refine wpQuiet_nil ?_
        rintro _ ⟨n, rfl⟩
        go_wp2_with fail
        go_ret
        exact ⟨rfl, below_trans (T_2.out) n.below⟩
      · have HG : Hid (oval p q z ys = false) := Lib.hid (by simpa using hg)
        clear hg
        have HS : Hid ((decide (s = p) && decide (o = q) && decide (k = z) && eqB xs ys) = false) := Lib.hid (by simpa using hs)
        have HS2 : Hid ((decide (p = s) && decide (q = o) && decide (z = k) && eqB ys xs) = false) := Lib.hid (by rw [same_sym3]; exact HS.out)
        clear hs
        go_wp2_with fail
        (with_reducible refine (I_OnceSame_q _ (s) (o) (k) (p) (q) (z) _ (xs) _ (ys) false (rdb_rd (rdb_b (rdb_b (r_x_1.out) (below_alloc _ _)) (below_alloc _ _))) (rdb_rd (rdb_b (rdb_b (r_y_1.out) (below_alloc _ _)) (below_alloc _ _))) (by first | omega | (simp; done) | (simp; omega)) (by first | omega | (simp; done) | (simp; omega)) HS.out).mono ?_)
        rintro e w2 ⟨rfl, hb⟩
        have c_A0_2 := cell_b (p := ⟨w1.heap.size, 0, none⟩) (v := .int .i64 s) (by first | (simp; done) | (simp [World.cell?_alloc_past, World.cell?_alloc_at]; done)) hb
        have c_A1_2 := cell_b (p := ⟨w1.heap.size, 1, none⟩) (v := .int .i64 o) (by first | (simp; done) | (simp [World.cell?_alloc_past, World.cell?_alloc_at]; done)) hb
        have c_A2_2 := cell_b (p := ⟨w1.heap.size, 2, none⟩) (v := .int .i64 k) (by first | (simp; done) | (simp [World.cell?_alloc_past, World.cell?_alloc_at]; done)) hb
        have c_A3_2 := cell_b (p := ⟨w1.heap.size, 3, none⟩) (v := .slice a1 xs.length c1) (by first | (simp; done) | (simp [World.cell?_alloc_past, World.cell?_alloc_at]; done)) hb
        have c_B0_2 := cell_b (p := ⟨w1.heap.size + 1, 0, none⟩) (v := .int .i64 p) (by first | (simp; done) | (simp [World.cell?_alloc_past, World.cell?_alloc_at]; done)) hb
        have c_B1_2 := cell_b (p := ⟨w1.heap.size + 1, 1, none⟩) (v := .int .i64 q) (by first | (simp; done) | (simp [World.cell?_alloc_past, World.cell?_alloc_at]; done)) hb
        have c_B2_2 := cell_b (p := ⟨w1.heap.size + 1, 2, none⟩) (v := .int .i64 z) (by first | (simp; done) | (simp [World.cell?_alloc_past, World.cell?_alloc_at]; done)) hb
        have c_B3_2 := cell_b (p := ⟨w1.heap.size + 1, 3, none⟩) (v := .slice b1 ys.length d1) (by first | (simp; done) | (simp [World.cell?_alloc_past, World.cell?_alloc_at]; done)) hb
        have r_x_2 := Lib.hid (rdb_b (rdb_b (rdb_b (r_x_1.out) (below_alloc _ _)) (below_alloc _ _)) hb)
        have r_y_2 := Lib.hid (rdb_b (rdb_b (rdb_b (r_y_1.out) (below_alloc _ _)) (below_alloc _ _)) hb)
        have T_2 := Lib.hid (below_trans (below_trans (below_trans (T_1.out) (below_alloc _ _)) (below_alloc _ _)) hb)
        have z_2 : w1.heap.size + 2 ≤ w2.heap.size := (by have := hb.size; (try simp at this); omega)
        have ac_A0_2 := fun o => cell_b (c_A0_2) (below_alloc _ o)
        have bc_A0_2 := fun o o1 => cell_b (ac_A0_2 o) (below_alloc _ o1)
        have dc_A0_2 := fun o o1 o2 => cell_b (bc_A0_2 o o1) (below_alloc _ o2)
        have ac_A1_2 := fun o => cell_b (c_A1_2) (below_alloc _ o)
        have bc_A1_2 := fun o o1 => cell_b (ac_A1_2 o) (below_alloc _ o1)
        have dc_A1_2 := fun o o1 o2 => cell_b (bc_A1_2 o o1) (below_alloc _ o2)
        have ac_A2_2 := fun o => cell_b (c_A2_2) (below_alloc _ o)
        have bc_A2_2 := fun o o1 => cell_b (ac_A2_2 o) (below_alloc _ o1)
        have dc_A2_2 := fun o o1 o2 => cell_b (bc_A2_2 o o1) (below_alloc _ o2)
        have ac_A3_2 := fun o => cell_b (c_A3_2) (below_alloc _ o)
        have bc_A3_2 := fun o o1 => cell_b (ac_A3_2 o) (below_alloc _ o1)
        have dc_A3_2 := fun o o1 o2 => cell_b (bc_A3_2 o o1) (below_alloc _ o2)
        have ac_B0_2 := fun o => cell_b (c_B0_2) (below_alloc _ o)
        have bc_B0_2 := fun o o1 => cell_b (ac_B0_2 o) (below_alloc _ o1)
        have dc_B0_2 := fun o o1 o2 => cell_b (bc_B0_2 o o1) (below_alloc _ o2)
        have ac_B1_2 := fun o => cell_b (c_B1_2) (below_alloc _ o)
        have bc_B1_2 := fun o o1 => cell_b (ac_B1_2 o) (below_alloc _ o1)
        have dc_B1_2 := fun o o1 o2 => cell_b (bc_B1_2 o o1) (below_alloc _ o2)
        have ac_B2_2 := fun o => cell_b (c_B2_2) (below_alloc _ o)
        have bc_B2_2 := fun o o1 => cell_b (ac_B2_2 o) (below_alloc _ o1)
        have dc_B2_2 := fun o o1 o2 => cell_b (bc_B2_2 o o1) (below_alloc _ o2)
        have ac_B3_2 := fun o => cell_b (c_B3_2) (below_alloc _ o)
        have bc_B3_2 := fun o o1 => cell_b (ac_B3_2 o) (below_alloc _ o1)
        have dc_B3_2 := fun o o1 o2 => cell_b (bc_B3_2 o o1) (below_alloc _ o2)
        clear hb r_x_1 r_y_1 T_1
        have HQ1 : Hid (oval p q z ys = false) := Lib.hid (HG.out)
        go_wp2_with fail
        have hp : ∀ ω1 ω2, (fun w' => w'.cell? ⟨w1.heap.size, 0, none⟩ = some (.int .i64 s) ∧ w'.cell? ⟨w1.heap.size, 1, none⟩ = some (.int .i64 o) ∧ w'.cell? ⟨w1.heap.size, 2, none⟩ = some (.int .i64 k) ∧ w'.cell? ⟨w1.heap.size, 3, none⟩ = some (.slice a1 xs.length c1) ∧ w'.cell? ⟨w1.heap.size + 1, 0, none⟩ = some (.int .i64 p) ∧ w'.cell? ⟨w1.heap.size + 1, 1, none⟩ = some (.int .i64 q) ∧ w'.cell? ⟨w1.heap.size + 1, 2, none⟩ = some (.int .i64 z) ∧ w'.cell? ⟨w1.heap.size + 1, 3, none⟩ = some (.slice b1 ys.length d1) ∧ RdB w' (w.heap.size) (.slice a1 xs.length c1) (xs) ∧ RdB w' (w.heap.size) (.slice b1 ys.length d1) (ys)) ω1 → Below ω1.heap.size ω1 ω2 → (fun w' => w'.cell? ⟨w1.heap.size, 0, none⟩ = some (.int .i64 s) ∧ w'.cell? ⟨w1.heap.size, 1, none⟩ = some (.int .i64 o) ∧ w'.cell? ⟨w1.heap.size, 2, none⟩ = some (.int .i64 k) ∧ w'.cell? ⟨w1.heap.size, 3, none⟩ = some (.slice a1 xs.length c1) ∧ w'.cell? ⟨w1.heap.size + 1, 0, none⟩ = some (.int .i64 p) ∧ w'.cell? ⟨w1.heap.size + 1, 1, none⟩ = some (.int .i64 q) ∧ w'.cell? ⟨w1.heap.size + 1, 2, none⟩ = some (.int .i64 z) ∧ w'.cell? ⟨w1.heap.size + 1, 3, none⟩ = some (.slice b1 ys.length d1) ∧ RdB w' (w.heap.size) (.slice a1 xs.length c1) (xs) ∧ RdB w' (w.heap.size) (.slice b1 ys.length d1) (ys)) ω2 := fun _ _ h hb => ⟨cell_b h.1 hb, cell_b h.2.1 hb, cell_b h.2.2.1 hb, cell_b h.2.2.2.1 hb, cell_b h.2.2.2.2.1 hb, cell_b h.2.2.2.2.2.1 hb, cell_b h.2.2.2.2.2.2.1 hb, cell_b h.2.2.2.2.2.2.2.1 hb, rdb_b h.2.2.2.2.2.2.2.2.1 hb, rdb_b h.2.2.2.2.2.2.2.2.2 hb⟩
        have HP := Lib.hid hp
        clear hp
        refine wp_region_calm (fun w' => w'.cell? ⟨w1.heap.size, 0, none⟩ = some (.int .i64 s) ∧ w'.cell? ⟨w1.heap.size, 1, none⟩ = some (.int .i64 o) ∧ w'.cell? ⟨w1.heap.size, 2, none⟩ = some (.int .i64 k) ∧ w'.cell? ⟨w1.heap.size, 3, none⟩ = some (.slice a1 xs.length c1) ∧ w'.cell? ⟨w1.heap.size + 1, 0, none⟩ = some (.int .i64 p) ∧ w'.cell? ⟨w1.heap.size + 1, 1, none⟩ = some (.int .i64 q) ∧ w'.cell? ⟨w1.heap.size + 1, 2, none⟩ = some (.int .i64 z) ∧ w'.cell? ⟨w1.heap.size + 1, 3, none⟩ = some (.slice b1 ys.length d1) ∧ RdB w' (w.heap.size) (.slice a1 xs.length c1) (xs) ∧ RdB w' (w.heap.size) (.slice b1 ys.length d1) (ys)) (by kernel_rfl) (by kernel_rfl) ⟨(c_A0_2), (c_A1_2), (c_A2_2), (c_A3_2), (c_B0_2), (c_B1_2), (c_B2_2), (c_B3_2), (r_x_2.out), (r_y_2.out)⟩ HP.out ?_
        intro hne hs
        (try dsimp only at hs)
        have q_A0 := fun n => (hs n).1
        have q_A1 := fun n => (hs n).2.1
        have q_A2 := fun n => (hs n).2.2.1
        have q_A3 := fun n => (hs n).2.2.2.1
        have q_B0 := fun n => (hs n).2.2.2.2.1
        have q_B1 := fun n => (hs n).2.2.2.2.2.1
        have q_B2 := fun n => (hs n).2.2.2.2.2.2.1
        have q_B3 := fun n => (hs n).2.2.2.2.2.2.2.1
        have Q_x := Lib.hid (fun n => (hs n).2.2.2.2.2.2.2.2.1)
        have Q_y := Lib.hid (fun n => (hs n).2.2.2.2.2.2.2.2.2)
        clear hs
        repeat (go_big_quiet_step (first | (go_at_call 26; with_reducible exact calm_of HP.out (S_OnceSame_q _ (s) (o) (k) (p) (q) (z) _ (xs) _ (ys) false (rdb_rd (Q_x.out _)) (rdb_rd (Q_y.out _)) (by first | omega | (simp; done) | (simp; omega)) (by first | omega | (simp; done) | (simp; omega)) HS.out)) | (go_at_call 25; with_reducible exact calm_of HP.out (I_OnceSame_q _ (p) (q) (z) (s) (o) (k) _ (ys) _ (xs) false (rdb_rd (Q_y.out _)) (rdb_rd (Q_x.out _)) (by first | omega | (simp; done) | (simp; omega)) (by first | omega | (simp; done) | (simp; omega)) HS2.out)) | (go_at_call 25; with_reducible exact calm_of HP.out (I_OnceSame_q _ (s) (o) (k) (s) (o) (k) _ (xs) _ (xs) true (rdb_rd (Q_x.out _)) (rdb_rd (Q_x.out _)) (by first | omega | (simp; done) | (simp; omega)) (by first | omega | (simp; done) | (simp; omega)) (by simp [eqB_self]))) | (go_at_call 27; with_reducible exact calm_of HP.out (I_OnceValid_q _ (p) (q) (z) _ (ys)  (false) (rdb_rd (Q_y.out _)) (by first | omega | (simp; done) | (simp; omega)) HQ1.out)) | (go_at_call 28; with_reducible exact calm_of HP.out (S_OnceValid_q _ (p) (q) (z) _ (ys)  (false) (rdb_rd (Q_y.out _)) (by first | omega | (simp; done) | (simp; omega)) HQ1.out))))
        refine wpQuiet_nil ?_
        rintro _ ⟨n, rfl⟩
        go_wp2_with fail
        go_ret
        exact ⟨rfl, below_trans (T_2.out) n.below⟩
end Go.Proofs.Ytgdhbhgkfcgjdaa
