/- The law FnSemSame: the walk. -/
import Derived.Test.YtcbdpcalmafdiaaDoorFmtSemI
import Derived.Test.YtcbdpcalmafdiaaDoorCodeDoor
import Derived.Deep.RegionHeld3
import Derived.Deep.DrawnRows
import Derived.Deep.RegionLaw
namespace Go.Proofs.YtcbdpcalmafdiaaDoor
open Go.RowKit
attribute [local go_sem ↓] Go.wp_at_zero Go.wp_at_succ
theorem bool_q {P : Program} {f : FuncId} {args : Array Value} {w : World} {x b : Bool} (h : Calls P f args w fun e w' => e = .returned (.bool x) ∧ Below w.heap.size w w') (hb : x = b) :
    Calls P f args w fun e w' => e = .returned (.bool b) ∧ Below w.heap.size w w' := by subst hb; exact h
theorem sem_sym (p q s u : Int) (xs ys : List (Int × Int)) : (decide (s = p) && decide (u = q) && eqP ys xs) = (decide (p = s) && decide (q = u) && eqP xs ys) := by
  unfold eqP; rw [Bool.eq_iff_iff]; simp only [Bool.and_eq_true, decide_eq_true_eq]
  exact ⟨fun ⟨⟨a, b⟩, c⟩ => ⟨⟨a.symm, b.symm⟩, c.symm⟩, fun ⟨⟨a, b⟩, c⟩ => ⟨⟨a.symm, b.symm⟩, c.symm⟩⟩
theorem str_q {P : Program} {f : FuncId} {args : Array Value} {w : World} {x b : ByteArray} (h : Calls P f args w fun e w' => e = .returned (.string x) ∧ Below w.heap.size w w') (hb : x = b) :
    Calls P f args w fun e w' => e = .returned (.string b) ∧ Below w.heap.size w w' := by subst hb; exact h
set_option maxHeartbeats 4000000 in
set_option maxRecDepth 100000 in
theorem W_FnSemSame (w : World) (v : Value) (n : Nat) (hv : RdY w v n) (hm : n ≤ 9223372036854775807) :
    Calls Tryd.prog 4 #[v] w fun e w' => e = .returned (.bool true) ∧ Below w.heap.size w w' := by
  have HV := Lib.hid hv
  obtain ⟨a, cap, rfl, hcap, hnc, hr⟩ := hv
  clear hr hnc
  by_cases hbig : 1048576 < n
  · go_enter Tryd.func4, Tryd.ntmps4
    go_wp2
    go_ret
    exact ⟨rfl, Below.refl _ _⟩
  · go_enter Tryd.func4, Tryd.ntmps4
    have T_0 : Hid (Below w.heap.size w w) := Lib.hid (Below.refl _ _)
    go_wp2_with fail
    (with_reducible refine (S_DrawSemSame _ _ n HV.out (by omega)).mono ?_)
    rintro e w1 ⟨p, q, xs, s, u, ys, a1, c1, b1, d1, rfl, hx, hy, hdx, hdy, hb⟩
    have T_1 := Lib.hid (below_trans (T_0.out) hb)
    have z_1 : w.heap.size ≤ w1.heap.size := (by have := hb.size; (try simp at this); omega)
    have r_x_1 := Lib.hid (rdxb_mono hdx (show w.heap.size ≤ _ by first | omega | (simp; done) | (simp; omega)))
    have lr_x := Lib.hid (rdxb_lo r_x_1.out)
    have hr_x := Lib.hid (rdxb_hi r_x_1.out)
    have r_y_1 := Lib.hid (rdxb_mono hdy (show w.heap.size ≤ _ by first | omega | (simp; done) | (simp; omega)))
    have lr_y := Lib.hid (rdxb_lo r_y_1.out)
    have hr_y := Lib.hid (rdxb_hi r_y_1.out)
    clear hb T_0 hdx hdy
    by_cases hs : (decide (p = s) && decide (q = u) && eqP xs ys) = true
    · obtain ⟨⟨rfl, rfl⟩, rfl⟩ : (p = s ∧ q = u) ∧ xs = ys := by simpa [eqP] using hs
      clear hs
      obtain ⟨st, hst⟩ : ∃ st : ByteArray, ⟨(ftxt p q xs).toArray⟩ = st := ⟨_, rfl⟩
      have HST := Lib.hid hst
      clear hst
      go_wp2_with fail
      (with_reducible refine (bool_q (I_SemSame _ p q p q _ xs _ xs (rdxb_x (rdxb_b (rdxb_b (r_x_1.out) (below_alloc _ _)) (below_alloc _ _))) (rdxb_x (rdxb_b (rdxb_b (r_y_1.out) (below_alloc _ _)) (below_alloc _ _))) (by omega) (by omega)) (show _ = true from by simp [eqP_self])).mono ?_)
      rintro e w2 ⟨rfl, hb⟩
      have c_A0_2 := cell_b (p := ⟨w1.heap.size, 0, none⟩) (v := .int .i64 p) (by first | (simp; done) | (simp [World.cell?_alloc_past, World.cell?_alloc_at]; done)) hb
      have c_A1_2 := cell_b (p := ⟨w1.heap.size, 1, none⟩) (v := .int .i64 q) (by first | (simp; done) | (simp [World.cell?_alloc_past, World.cell?_alloc_at]; done)) hb
      have c_A2_2 := cell_b (p := ⟨w1.heap.size, 2, none⟩) (v := .slice a1 xs.length c1) (by first | (simp; done) | (simp [World.cell?_alloc_past, World.cell?_alloc_at]; done)) hb
      have c_B0_2 := cell_b (p := ⟨w1.heap.size + 1, 0, none⟩) (v := .int .i64 p) (by first | (simp; done) | (simp [World.cell?_alloc_past, World.cell?_alloc_at]; done)) hb
      have c_B1_2 := cell_b (p := ⟨w1.heap.size + 1, 1, none⟩) (v := .int .i64 q) (by first | (simp; done) | (simp [World.cell?_alloc_past, World.cell?_alloc_at]; done)) hb
      have c_B2_2 := cell_b (p := ⟨w1.heap.size + 1, 2, none⟩) (v := .slice b1 xs.length d1) (by first | (simp; done) | (simp [World.cell?_alloc_past, World.cell?_alloc_at]; done)) hb
      have r_x_2 := Lib.hid (rdxb_b (rdxb_b (rdxb_b (r_x_1.out) (below_alloc _ _)) (below_alloc _ _)) hb)
      have r_y_2 := Lib.hid (rdxb_b (rdxb_b (rdxb_b (r_y_1.out) (below_alloc _ _)) (below_alloc _ _)) hb)
      have T_2 := Lib.hid (below_trans (below_trans (below_trans (T_1.out) (below_alloc _ _)) (below_alloc _ _)) hb)
      have z_2 : w1.heap.size + 2 ≤ w2.heap.size := (by have := hb.size; (try simp at this); omega)
      have ac_A0_2 := fun o => cell_b (c_A0_2) (below_alloc _ o)
      have bc_A0_2 := fun o o1 => cell_b (ac_A0_2 o) (below_alloc _ o1)
      have dc_A0_2 := fun o o1 o2 => cell_b (bc_A0_2 o o1) (below_alloc _ o2)
      have ac_A1_2 := fun o => cell_b (c_A1_2) (below_alloc _ o)
      have bc_A1_2 := fun o o1 => cell_b (ac_A1_2 o) (below_alloc _ o1)
      have dc_A1_2 := fun o o1 o2 => cell_b (bc_A1_2 o o1) (below_alloc _ o2)
      have ac_A2_2 := fun o => cell_b (c_A2_2) (below_alloc _ o)
      have bc_A2_2 := fun o o1 => cell_b (ac_A2_2 o) (below_alloc _ o1)
      have dc_A2_2 := fun o o1 o2 => cell_b (bc_A2_2 o o1) (below_alloc _ o2)
      have ac_B0_2 := fun o => cell_b (c_B0_2) (below_alloc _ o)
      have bc_B0_2 := fun o o1 => cell_b (ac_B0_2 o) (below_alloc _ o1)
      have dc_B0_2 := fun o o1 o2 => cell_b (bc_B0_2 o o1) (below_alloc _ o2)
      have ac_B1_2 := fun o => cell_b (c_B1_2) (below_alloc _ o)
      have bc_B1_2 := fun o o1 => cell_b (ac_B1_2 o) (below_alloc _ o1)
      have dc_B1_2 := fun o o1 o2 => cell_b (bc_B1_2 o o1) (below_alloc _ o2)
      have ac_B2_2 := fun o => cell_b (c_B2_2) (below_alloc _ o)
      have bc_B2_2 := fun o o1 => cell_b (ac_B2_2 o) (below_alloc _ o1)
      have dc_B2_2 := fun o o1 o2 => cell_b (bc_B2_2 o o1) (below_alloc _ o2)
      clear hb r_x_1 r_y_1 T_1
      go_wp2_with fail
      have hp : ∀ ω1 ω2, (fun w' => w'.cell? ⟨w1.heap.size, 0, none⟩ = some (.int .i64 p) ∧ w'.cell? ⟨w1.heap.size, 1, none⟩ = some (.int .i64 q) ∧ w'.cell? ⟨w1.heap.size, 2, none⟩ = some (.slice a1 xs.length c1) ∧ w'.cell? ⟨w1.heap.size + 1, 0, none⟩ = some (.int .i64 p) ∧ w'.cell? ⟨w1.heap.size + 1, 1, none⟩ = some (.int .i64 q) ∧ w'.cell? ⟨w1.heap.size + 1, 2, none⟩ = some (.slice b1 xs.length d1) ∧ RdWB w' (w.heap.size) (.slice a1 xs.length c1) (xs) ∧ RdWB w' (w.heap.size) (.slice b1 xs.length d1) (xs)) ω1 → Below ω1.heap.size ω1 ω2 → (fun w' => w'.cell? ⟨w1.heap.size, 0, none⟩ = some (.int .i64 p) ∧ w'.cell? ⟨w1.heap.size, 1, none⟩ = some (.int .i64 q) ∧ w'.cell? ⟨w1.heap.size, 2, none⟩ = some (.slice a1 xs.length c1) ∧ w'.cell? ⟨w1.heap.size + 1, 0, none⟩ = some (.int .i64 p) ∧ w'.cell? ⟨w1.heap.size + 1, 1, none⟩ = some (.int .i64 q) ∧ w'.cell? ⟨w1.heap.size + 1, 2, none⟩ = some (.slice b1 xs.length d1) ∧ RdWB w' (w.heap.size) (.slice a1 xs.length c1) (xs) ∧ RdWB w' (w.heap.size) (.slice b1 xs.length d1) (xs)) ω2 := fun _ _ h hb => ⟨cell_b h.1 hb, cell_b h.2.1 hb, cell_b h.2.2.1 hb, cell_b h.2.2.2.1 hb, cell_b h.2.2.2.2.1 hb, cell_b h.2.2.2.2.2.1 hb, rdxb_b h.2.2.2.2.2.2.1 hb, rdxb_b h.2.2.2.2.2.2.2 hb⟩
      have HP := Lib.hid hp
      clear hp
      refine wp_region_calm (fun w' => w'.cell? ⟨w1.heap.size, 0, none⟩ = some (.int .i64 p) ∧ w'.cell? ⟨w1.heap.size, 1, none⟩ = some (.int .i64 q) ∧ w'.cell? ⟨w1.heap.size, 2, none⟩ = some (.slice a1 xs.length c1) ∧ w'.cell? ⟨w1.heap.size + 1, 0, none⟩ = some (.int .i64 p) ∧ w'.cell? ⟨w1.heap.size + 1, 1, none⟩ = some (.int .i64 q) ∧ w'.cell? ⟨w1.heap.size + 1, 2, none⟩ = some (.slice b1 xs.length d1) ∧ RdWB w' (w.heap.size) (.slice a1 xs.length c1) (xs) ∧ RdWB w' (w.heap.size) (.slice b1 xs.length d1) (xs)) (by kernel_rfl) (by kernel_rfl) ⟨(c_A0_2), (c_A1_2), (c_A2_2), (c_B0_2), (c_B1_2), (c_B2_2), (r_x_2.out), (r_y_2.out)⟩ HP.out ?_
      intro hne hs
      (try dsimp only at hs)
      have q_A0 := fun n => (hs n).1
      have q_A1 := fun n => (hs n).2.1
      have q_A2 := fun n => (hs n).2.2.1
      have q_B0 := fun n => (hs n).2.2.2.1
      have q_B1 := fun n => (hs n).2.2.2.2.1
      have q_B2 := fun n => (hs n).2.2.2.2.2.1
      have Q_x := Lib.hid (fun n => (hs n).2.2.2.2.2.2.1)
      have Q_y := Lib.hid (fun n => (hs n).2.2.2.2.2.2.2)
      clear hs
      repeat (go_big_quiet_step (first | (go_at_call 14; with_reducible exact calm_of HP.out (bool_q (S_SemSame _ p q p q _ xs _ xs (rdxb_x (Q_x.out _)) (rdxb_x (Q_y.out _)) (by omega) (by omega)) (show _ = true from by simp [eqP_self]))) | (go_at_call 13; with_reducible exact calm_of HP.out (bool_q (I_SemSame _ p q p q _ xs _ xs (rdxb_x (Q_y.out _)) (rdxb_x (Q_x.out _)) (by omega) (by omega)) (show _ = true from by simp [eqP_self]))) | (go_at_call 13; with_reducible exact calm_of HP.out (bool_q (I_SemSame _ p q p q _ xs _ xs (rdxb_x (Q_x.out _)) (rdxb_x (Q_x.out _)) (by omega) (by omega)) (show _ = true from by simp [eqP_self]))) | (go_at_call 10; with_reducible exact calm_of HP.out (str_q (I_FormatSem _ p q _ xs (rdxb_x (Q_x.out _)) (by omega)) HST.out)) | (go_at_call 10; with_reducible exact calm_of HP.out (str_q (I_FormatSem _ p q _ xs (rdxb_x (Q_y.out _)) (by omega)) HST.out))))
      refine wpQuiet_nil ?_
      rintro _ ⟨n9, rfl⟩
      go_wp2_with fail
      go_ret
      exact ⟨rfl, below_trans (T_2.out) n9.below⟩
    · have HS : Hid ((decide (p = s) && decide (q = u) && eqP xs ys) = false) := Lib.hid (by simpa using hs)
      have HS2 : Hid ((decide (s = p) && decide (u = q) && eqP ys xs) = false) := Lib.hid ((sem_sym _ _ _ _ _ _).trans HS.out)
      clear hs
      go_wp2_with fail
      (with_reducible refine (bool_q (I_SemSame _ p q s u _ xs _ ys (rdxb_x (rdxb_b (rdxb_b (r_x_1.out) (below_alloc _ _)) (below_alloc _ _))) (rdxb_x (rdxb_b (rdxb_b (r_y_1.out) (below_alloc _ _)) (below_alloc _ _))) (by omega) (by omega)) HS.out).mono ?_)
      rintro e w2 ⟨rfl, hb⟩
      have c_A0_2 := cell_b (p := ⟨w1.heap.size, 0, none⟩) (v := .int .i64 p) (by first | (simp; done) | (simp [World.cell?_alloc_past, World.cell?_alloc_at]; done)) hb
      have c_A1_2 := cell_b (p := ⟨w1.heap.size, 1, none⟩) (v := .int .i64 q) (by first | (simp; done) | (simp [World.cell?_alloc_past, World.cell?_alloc_at]; done)) hb
      have c_A2_2 := cell_b (p := ⟨w1.heap.size, 2, none⟩) (v := .slice a1 xs.length c1) (by first | (simp; done) | (simp [World.cell?_alloc_past, World.cell?_alloc_at]; done)) hb
      have c_B0_2 := cell_b (p := ⟨w1.heap.size + 1, 0, none⟩) (v := .int .i64 s) (by first | (simp; done) | (simp [World.cell?_alloc_past, World.cell?_alloc_at]; done)) hb
      have c_B1_2 := cell_b (p := ⟨w1.heap.size + 1, 1, none⟩) (v := .int .i64 u) (by first | (simp; done) | (simp [World.cell?_alloc_past, World.cell?_alloc_at]; done)) hb
      have c_B2_2 := cell_b (p := ⟨w1.heap.size + 1, 2, none⟩) (v := .slice b1 ys.length d1) (by first | (simp; done) | (simp [World.cell?_alloc_past, World.cell?_alloc_at]; done)) hb
      have r_x_2 := Lib.hid (rdxb_b (rdxb_b (rdxb_b (r_x_1.out) (below_alloc _ _)) (below_alloc _ _)) hb)
      have r_y_2 := Lib.hid (rdxb_b (rdxb_b (rdxb_b (r_y_1.out) (below_alloc _ _)) (below_alloc _ _)) hb)
      have T_2 := Lib.hid (below_trans (below_trans (below_trans (T_1.out) (below_alloc _ _)) (below_alloc _ _)) hb)
      have z_2 : w1.heap.size + 2 ≤ w2.heap.size := (by have := hb.size; (try simp at this); omega)
      have ac_A0_2 := fun o => cell_b (c_A0_2) (below_alloc _ o)
      have bc_A0_2 := fun o o1 => cell_b (ac_A0_2 o) (below_alloc _ o1)
      have dc_A0_2 := fun o o1 o2 => cell_b (bc_A0_2 o o1) (below_alloc _ o2)
      have ac_A1_2 := fun o => cell_b (c_A1_2) (below_alloc _ o)
      have bc_A1_2 := fun o o1 => cell_b (ac_A1_2 o) (below_alloc _ o1)
      have dc_A1_2 := fun o o1 o2 => cell_b (bc_A1_2 o o1) (below_alloc _ o2)
      have ac_A2_2 := fun o => cell_b (c_A2_2) (below_alloc _ o)
      have bc_A2_2 := fun o o1 => cell_b (ac_A2_2 o) (below_alloc _ o1)
      have dc_A2_2 := fun o o1 o2 => cell_b (bc_A2_2 o o1) (below_alloc _ o2)
      have ac_B0_2 := fun o => cell_b (c_B0_2) (below_alloc _ o)
      have bc_B0_2 := fun o o1 => cell_b (ac_B0_2 o) (below_alloc _ o1)
      have dc_B0_2 := fun o o1 o2 => cell_b (bc_B0_2 o o1) (below_alloc _ o2)
      have ac_B1_2 := fun o => cell_b (c_B1_2) (below_alloc _ o)
      have bc_B1_2 := fun o o1 => cell_b (ac_B1_2 o) (below_alloc _ o1)
      have dc_B1_2 := fun o o1 o2 => cell_b (bc_B1_2 o o1) (below_alloc _ o2)
      have ac_B2_2 := fun o => cell_b (c_B2_2) (below_alloc _ o)
      have bc_B2_2 := fun o o1 => cell_b (ac_B2_2 o) (below_alloc _ o1)
      have dc_B2_2 := fun o o1 o2 => cell_b (bc_B2_2 o o1) (below_alloc _ o2)
      clear hb r_x_1 r_y_1 T_1
      go_wp2_with fail
      have hp : ∀ ω1 ω2, (fun w' => w'.cell? ⟨w1.heap.size, 0, none⟩ = some (.int .i64 p) ∧ w'.cell? ⟨w1.heap.size, 1, none⟩ = some (.int .i64 q) ∧ w'.cell? ⟨w1.heap.size, 2, none⟩ = some (.slice a1 xs.length c1) ∧ w'.cell? ⟨w1.heap.size + 1, 0, none⟩ = some (.int .i64 s) ∧ w'.cell? ⟨w1.heap.size + 1, 1, none⟩ = some (.int .i64 u) ∧ w'.cell? ⟨w1.heap.size + 1, 2, none⟩ = some (.slice b1 ys.length d1) ∧ RdWB w' (w.heap.size) (.slice a1 xs.length c1) (xs) ∧ RdWB w' (w.heap.size) (.slice b1 ys.length d1) (ys)) ω1 → Below ω1.heap.size ω1 ω2 → (fun w' => w'.cell? ⟨w1.heap.size, 0, none⟩ = some (.int .i64 p) ∧ w'.cell? ⟨w1.heap.size, 1, none⟩ = some (.int .i64 q) ∧ w'.cell? ⟨w1.heap.size, 2, none⟩ = some (.slice a1 xs.length c1) ∧ w'.cell? ⟨w1.heap.size + 1, 0, none⟩ = some (.int .i64 s) ∧ w'.cell? ⟨w1.heap.size + 1, 1, none⟩ = some (.int .i64 u) ∧ w'.cell? ⟨w1.heap.size + 1, 2, none⟩ = some (.slice b1 ys.length d1) ∧ RdWB w' (w.heap.size) (.slice a1 xs.length c1) (xs) ∧ RdWB w' (w.heap.size) (.slice b1 ys.length d1) (ys)) ω2 := fun _ _ h hb => ⟨cell_b h.1 hb, cell_b h.2.1 hb, cell_b h.2.2.1 hb, cell_b h.2.2.2.1 hb, cell_b h.2.2.2.2.1 hb, cell_b h.2.2.2.2.2.1 hb, rdxb_b h.2.2.2.2.2.2.1 hb, rdxb_b h.2.2.2.2.2.2.2 hb⟩
      have HP := Lib.hid hp
      clear hp
      refine wp_region_calm (fun w' => w'.cell? ⟨w1.heap.size, 0, none⟩ = some (.int .i64 p) ∧ w'.cell? ⟨w1.heap.size, 1, none⟩ = some (.int .i64 q) ∧ w'.cell? ⟨w1.heap.size, 2, none⟩ = some (.slice a1 xs.length c1) ∧ w'.cell? ⟨w1.heap.size + 1, 0, none⟩ = some (.int .i64 s) ∧ w'.cell? ⟨w1.heap.size + 1, 1, none⟩ = some (.int .i64 u) ∧ w'.cell? ⟨w1.heap.size + 1, 2, none⟩ = some (.slice b1 ys.length d1) ∧ RdWB w' (w.heap.size) (.slice a1 xs.length c1) (xs) ∧ RdWB w' (w.heap.size) (.slice b1 ys.length d1) (ys)) (by kernel_rfl) (by kernel_rfl) ⟨(c_A0_2), (c_A1_2), (c_A2_2), (c_B0_2), (c_B1_2), (c_B2_2), (r_x_2.out), (r_y_2.out)⟩ HP.out ?_
      intro hne hs
      (try dsimp only at hs)
      have q_A0 := fun n => (hs n).1
      have q_A1 := fun n => (hs n).2.1
      have q_A2 := fun n => (hs n).2.2.1
      have q_B0 := fun n => (hs n).2.2.2.1
      have q_B1 := fun n => (hs n).2.2.2.2.1
      have q_B2 := fun n => (hs n).2.2.2.2.2.1
      have Q_x := Lib.hid (fun n => (hs n).2.2.2.2.2.2.1)
      have Q_y := Lib.hid (fun n => (hs n).2.2.2.2.2.2.2)
      clear hs
      repeat (go_big_quiet_step (first | (go_at_call 14; with_reducible exact calm_of HP.out (bool_q (S_SemSame _ p q s u _ xs _ ys (rdxb_x (Q_x.out _)) (rdxb_x (Q_y.out _)) (by omega) (by omega)) HS.out)) | (go_at_call 13; with_reducible exact calm_of HP.out (bool_q (I_SemSame _ s u p q _ ys _ xs (rdxb_x (Q_y.out _)) (rdxb_x (Q_x.out _)) (by omega) (by omega)) HS2.out)) | (go_at_call 13; with_reducible exact calm_of HP.out (bool_q (I_SemSame _ p q p q _ xs _ xs (rdxb_x (Q_x.out _)) (rdxb_x (Q_x.out _)) (by omega) (by omega)) (show _ = true from by simp [eqP_self])))))
      refine wpQuiet_nil ?_
      rintro _ ⟨n9, rfl⟩
      go_wp2_with fail
      go_ret
      exact ⟨rfl, below_trans (T_2.out) n9.below⟩
end Go.Proofs.YtcbdpcalmafdiaaDoor
