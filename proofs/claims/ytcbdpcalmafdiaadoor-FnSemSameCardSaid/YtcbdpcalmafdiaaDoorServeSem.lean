/- What l1Serve, Release and Acquire hand back. -/
import Derived.Test.YtcbdpcalmafdiaaDoorCopySem
import Derived.Test.YtcbdpcalmafdiaaDoorSemValid
import Derived.Test.YtcbdpcalmafdiaaDoorPlaceOf
import Derived.Deep.RegionHeld3
import Derived.Deep.RegionLaw
import Derived.Deep.DrawnRows
namespace Go.Proofs.YtcbdpcalmafdiaaDoor
open Go.RowKit
attribute [local go_sem ↓] Go.wp_at_zero Go.wp_at_succ

theorem sval_in {f l : Int} {ws : List (Int × Int)} (h : sval f l ws = true) : 1 ≤ l ∧ l ≤ 9 ∧ 0 ≤ f ∧ f ≤ l ∧ ws.length ≤ 6 := by
  apply shead_true
  cases hh : shead f l ws
  · rw [sval_head hh] at h; cases h
  · rfl
/-- A slice's length. -/
def lenV : Value → Nat
  | .slice _ n _ => n
  | _ => 0
/-- At the head of l1Serve's loop. -/
def SvHead (w : World) (q : Int) (m BO : Nat) (vg : Value) (wr : World) : Prop :=
  ∃ (p : Int) (Y : List Int) (Z : List (Int × Int)) (ag : Option Addr) (cg : Nat) (a : Option Addr) (cap : Nat), vg = .slice ag Y.length cg ∧ Y.length + Z.length ≤ m ∧ Ow wr (w.heap.size + 1) (.slice ag Y.length cg) Y ∧
    wr.cell? ⟨BO, 0, none⟩ = some (.int .i64 p) ∧ wr.cell? ⟨BO, 1, none⟩ = some (.int .i64 q) ∧ wr.cell? ⟨BO, 2, none⟩ = some (.slice a Z.length cap) ∧ wr.frozen? ⟨BO, 0, none⟩ = false ∧ wr.frozen? ⟨BO, 1, none⟩ = false ∧ wr.frozen? ⟨BO, 2, none⟩ = false ∧
    wr.cell? ⟨w.heap.size + 1, 0, none⟩ = some (.int .i64 0) ∧ wr.cell? ⟨w.heap.size + 1, 1, none⟩ = some (.int .i64 0) ∧ wr.cell? ⟨w.heap.size + 1, 2, none⟩ = some (.slice none 0 0) ∧ wr.frozen? ⟨w.heap.size + 1, 0, none⟩ = false ∧ wr.frozen? ⟨w.heap.size + 1, 1, none⟩ = false ∧ wr.frozen? ⟨w.heap.size + 1, 2, none⟩ = false ∧
    RdWB wr (w.heap.size + 2) (.slice a Z.length cap) Z ∧ (∀ g, (Value.slice a Z.length cap).ownBlock = some g → g ≠ BO) ∧ (∀ g, (Value.slice ag Y.length cg).ownBlock = some g → BO < g ∧ ∀ g', (Value.slice a Z.length cap).ownBlock = some g' → g' ≠ g) ∧ Below w.heap.size w wr ∧ BO < wr.heap.size
/-- A semaphore and those that were served. -/
def ServeP (w : World) (m : Nat) (e : Ending) (w' : World) : Prop :=
  ∃ (p q : Int) (Z : List (Int × Int)) (Y : List Int) (a : Option Addr) (cap : Nat) (ag : Option Addr) (cg : Nat), e = .returned (.tuple #[.agg #[.int .i64 p, .int .i64 q, .slice a Z.length cap], .slice ag Y.length cg]) ∧ Y.length + Z.length ≤ m ∧ RdWB w' w.heap.size (.slice a Z.length cap) Z ∧ RdB w' w.heap.size (.slice ag Y.length cg) Y ∧ Below w.heap.size w w'
set_option maxHeartbeats 4000000 in
set_option maxRecDepth 100000 in
theorem S_l1Serve (w : World) (p q : Int) (v : Value) (xs : List (Int × Int)) (hv : RdWB w 0 v xs) (hl : xs.length ≤ 1000) :
    Calls Tryd.prog 45 #[.agg #[.int .i64 p, .int .i64 q, v]] w (ServeP w xs.length) := by
  obtain ⟨j0, hj, hy0, hy1, hy2⟩ := info_parts infoW
  obtain ⟨i0, hi, hz0, hz1, hz2⟩ := info_parts info3
  have r_d_0 := Lib.hid hv
  have lr_d := Lib.hid (rdxb_lo hv)
  have hr_d := Lib.hid (rdxb_hi hv)
  obtain ⟨⟨a, cap, rfl, hcap, hnc, hlen, hc⟩, hb⟩ := hv
  clear hnc hc hb hlen
  go_enter Tryd.func45, Tryd.ntmps45
  have T_0 : Hid (Below w.heap.size w w) := Lib.hid (Below.refl _ _)
  go_wp2_with fail
  (with_reducible refine (S_l1Copy _ p q _ xs (rdxb_b (rdxb_b (r_d_0.out) (below_alloc _ _)) (below_alloc _ _)) (by omega)).mono ?_)
  rintro e w1 ⟨a0, cap0, rfl, hd, hb⟩
  have c_A0_1 := cell_b (p := ⟨w.heap.size, 0, none⟩) (v := .int .i64 p) (by first | (simp; done) | (simp [World.cell?_alloc_past, World.cell?_alloc_at]; done)) hb
  have c_A1_1 := cell_b (p := ⟨w.heap.size, 1, none⟩) (v := .int .i64 q) (by first | (simp; done) | (simp [World.cell?_alloc_past, World.cell?_alloc_at]; done)) hb
  have c_A2_1 := cell_b (p := ⟨w.heap.size, 2, none⟩) (v := .slice a xs.length cap) (by first | (simp; done) | (simp [World.cell?_alloc_past, World.cell?_alloc_at]; done)) hb
  have c_R0_1 := cell_b (p := ⟨w.heap.size + 1, 0, none⟩) (v := .int .i64 0) (by first | (simp; done) | (simp [World.cell?_alloc_past, World.cell?_alloc_at]; done)) hb
  have f_R0_1 := frz_b (p := ⟨w.heap.size + 1, 0, none⟩) (by first | omega | (simp; done) | (simp; omega)) (show _ = false by first | (simp; done) | (simp [World.frozen?_alloc_past, World.frozen?_alloc_at]; done)) hb
  have c_R1_1 := cell_b (p := ⟨w.heap.size + 1, 1, none⟩) (v := .int .i64 0) (by first | (simp; done) | (simp [World.cell?_alloc_past, World.cell?_alloc_at]; done)) hb
  have f_R1_1 := frz_b (p := ⟨w.heap.size + 1, 1, none⟩) (by first | omega | (simp; done) | (simp; omega)) (show _ = false by first | (simp; done) | (simp [World.frozen?_alloc_past, World.frozen?_alloc_at]; done)) hb
  have c_R2_1 := cell_b (p := ⟨w.heap.size + 1, 2, none⟩) (v := .slice none 0 0) (by first | (simp; done) | (simp [World.cell?_alloc_past, World.cell?_alloc_at]; done)) hb
  have f_R2_1 := frz_b (p := ⟨w.heap.size + 1, 2, none⟩) (by first | omega | (simp; done) | (simp; omega)) (show _ = false by first | (simp; done) | (simp [World.frozen?_alloc_past, World.frozen?_alloc_at]; done)) hb
  have r_d_1 := Lib.hid (rdxb_b (rdxb_b (rdxb_b (r_d_0.out) (below_alloc _ _)) (below_alloc _ _)) hb)
  have T_1 := Lib.hid (below_trans (below_trans (below_trans (T_0.out) (below_alloc _ _)) (below_alloc _ _)) hb)
  have z_1 : w.heap.size + 2 ≤ w1.heap.size := (by have := hb.size; (try simp at this); omega)
  have o_e_1 := Lib.hid (own_base hd (show w.heap.size + 2 ≤ _ by first | omega | (simp; done) | (simp; omega)))
  have lo_e := Lib.hid (own_lo o_e_1.out)
  have hi_e := Lib.hid (own_hi o_e_1.out)
  have ac_A0_1 := fun o => cell_b (c_A0_1) (below_alloc _ o)
  have bc_A0_1 := fun o o1 => cell_b (ac_A0_1 o) (below_alloc _ o1)
  have ac_A1_1 := fun o => cell_b (c_A1_1) (below_alloc _ o)
  have bc_A1_1 := fun o o1 => cell_b (ac_A1_1 o) (below_alloc _ o1)
  have ac_A2_1 := fun o => cell_b (c_A2_1) (below_alloc _ o)
  have bc_A2_1 := fun o o1 => cell_b (ac_A2_1 o) (below_alloc _ o1)
  have ac_R0_1 := fun o => cell_b (c_R0_1) (below_alloc _ o)
  have bc_R0_1 := fun o o1 => cell_b (ac_R0_1 o) (below_alloc _ o1)
  have ac_R1_1 := fun o => cell_b (c_R1_1) (below_alloc _ o)
  have bc_R1_1 := fun o o1 => cell_b (ac_R1_1 o) (below_alloc _ o1)
  have ac_R2_1 := fun o => cell_b (c_R2_1) (below_alloc _ o)
  have bc_R2_1 := fun o o1 => cell_b (ac_R2_1 o) (below_alloc _ o1)
  have af_R0_1 := fun o => frz_b (cell_lt (c_R0_1)) (f_R0_1) (below_alloc _ o)
  have bf_R0_1 := fun o o1 => frz_b (cell_lt (ac_R0_1 o)) (af_R0_1 o) (below_alloc _ o1)
  have af_R1_1 := fun o => frz_b (cell_lt (c_R1_1)) (f_R1_1) (below_alloc _ o)
  have bf_R1_1 := fun o o1 => frz_b (cell_lt (ac_R1_1 o)) (af_R1_1 o) (below_alloc _ o1)
  have af_R2_1 := fun o => frz_b (cell_lt (c_R2_1)) (f_R2_1) (below_alloc _ o)
  have bf_R2_1 := fun o o1 => frz_b (cell_lt (ac_R2_1 o)) (af_R2_1 o) (below_alloc _ o1)
  clear hb r_d_0 T_0 hd
  clear r_d_1 lr_d hr_d
  go_wp2_with fail
  go_loopw [5] (fun vg wr => SvHead w q xs.length (w1.heap.size) vg wr) (fun vg _ => xs.length - lenV vg)
  case atStart =>
    have OG := ow_made_at ((w1).alloc (.cells #[.int .i64 p, .int .i64 q, .slice a0 xs.length cap0] 29)) (w1.heap.size + 1) (w1.heap.size + 1) (by first | rfl | simp) (Nat.le_refl _)
    have c_A0_9 : (((w1).alloc (.cells #[.int .i64 p, .int .i64 q, .slice a0 xs.length cap0] 29)).alloc (.cells #[] 3)).cell? ⟨w.heap.size, 0, none⟩ = some (.int .i64 p) := cell_b (cell_b (c_A0_1) (below_alloc _ _)) (below_alloc _ _)
    have c_A1_9 : (((w1).alloc (.cells #[.int .i64 p, .int .i64 q, .slice a0 xs.length cap0] 29)).alloc (.cells #[] 3)).cell? ⟨w.heap.size, 1, none⟩ = some (.int .i64 q) := cell_b (cell_b (c_A1_1) (below_alloc _ _)) (below_alloc _ _)
    have c_A2_9 : (((w1).alloc (.cells #[.int .i64 p, .int .i64 q, .slice a0 xs.length cap0] 29)).alloc (.cells #[] 3)).cell? ⟨w.heap.size, 2, none⟩ = some (.slice a xs.length cap) := cell_b (cell_b (c_A2_1) (below_alloc _ _)) (below_alloc _ _)
    have c_R0_9 : (((w1).alloc (.cells #[.int .i64 p, .int .i64 q, .slice a0 xs.length cap0] 29)).alloc (.cells #[] 3)).cell? ⟨w.heap.size + 1, 0, none⟩ = some (.int .i64 0) := cell_b (cell_b (c_R0_1) (below_alloc _ _)) (below_alloc _ _)
    have c_R1_9 : (((w1).alloc (.cells #[.int .i64 p, .int .i64 q, .slice a0 xs.length cap0] 29)).alloc (.cells #[] 3)).cell? ⟨w.heap.size + 1, 1, none⟩ = some (.int .i64 0) := cell_b (cell_b (c_R1_1) (below_alloc _ _)) (below_alloc _ _)
    have c_R2_9 : (((w1).alloc (.cells #[.int .i64 p, .int .i64 q, .slice a0 xs.length cap0] 29)).alloc (.cells #[] 3)).cell? ⟨w.heap.size + 1, 2, none⟩ = some (.slice none 0 0) := cell_b (cell_b (c_R2_1) (below_alloc _ _)) (below_alloc _ _)
    have f_R0_9 : (((w1).alloc (.cells #[.int .i64 p, .int .i64 q, .slice a0 xs.length cap0] 29)).alloc (.cells #[] 3)).frozen? ⟨w.heap.size + 1, 0, none⟩ = false := frz_b (cell_lt (cell_b (c_R0_1) (below_alloc _ _))) (frz_b (cell_lt (c_R0_1)) (f_R0_1) (below_alloc _ _)) (below_alloc _ _)
    have f_R1_9 : (((w1).alloc (.cells #[.int .i64 p, .int .i64 q, .slice a0 xs.length cap0] 29)).alloc (.cells #[] 3)).frozen? ⟨w.heap.size + 1, 1, none⟩ = false := frz_b (cell_lt (cell_b (c_R1_1) (below_alloc _ _))) (frz_b (cell_lt (c_R1_1)) (f_R1_1) (below_alloc _ _)) (below_alloc _ _)
    have f_R2_9 : (((w1).alloc (.cells #[.int .i64 p, .int .i64 q, .slice a0 xs.length cap0] 29)).alloc (.cells #[] 3)).frozen? ⟨w.heap.size + 1, 2, none⟩ = false := frz_b (cell_lt (cell_b (c_R2_1) (below_alloc _ _))) (frz_b (cell_lt (c_R2_1)) (f_R2_1) (below_alloc _ _)) (below_alloc _ _)
    have c_O0_9 : (((w1).alloc (.cells #[.int .i64 p, .int .i64 q, .slice a0 xs.length cap0] 29)).alloc (.cells #[] 3)).cell? ⟨w1.heap.size, 0, none⟩ = some (.int .i64 p) := by simp
    have f_O0_9 : (((w1).alloc (.cells #[.int .i64 p, .int .i64 q, .slice a0 xs.length cap0] 29)).alloc (.cells #[] 3)).frozen? ⟨w1.heap.size, 0, none⟩ = false := by simp
    have c_O1_9 : (((w1).alloc (.cells #[.int .i64 p, .int .i64 q, .slice a0 xs.length cap0] 29)).alloc (.cells #[] 3)).cell? ⟨w1.heap.size, 1, none⟩ = some (.int .i64 q) := by simp
    have f_O1_9 : (((w1).alloc (.cells #[.int .i64 p, .int .i64 q, .slice a0 xs.length cap0] 29)).alloc (.cells #[] 3)).frozen? ⟨w1.heap.size, 1, none⟩ = false := by simp
    have c_O2_9 : (((w1).alloc (.cells #[.int .i64 p, .int .i64 q, .slice a0 xs.length cap0] 29)).alloc (.cells #[] 3)).cell? ⟨w1.heap.size, 2, none⟩ = some (.slice a0 xs.length cap0) := by simp
    have f_O2_9 : (((w1).alloc (.cells #[.int .i64 p, .int .i64 q, .slice a0 xs.length cap0] 29)).alloc (.cells #[] 3)).frozen? ⟨w1.heap.size, 2, none⟩ = false := by simp
    have o_e_9 : Hid ((((w1).alloc (.cells #[.int .i64 p, .int .i64 q, .slice a0 xs.length cap0] 29)).alloc (.cells #[] 3)).ownsRow (w.heap.size + 2) 42 2 (.slice a0 xs.length cap0) ((xs).length) (prs (xs))) := Lib.hid ((own_below (own_below (o_e_1.out) (below_alloc _ _)) (below_alloc _ _)))
    have T_9 : Hid (Below w.heap.size w (((w1).alloc (.cells #[.int .i64 p, .int .i64 q, .slice a0 xs.length cap0] 29)).alloc (.cells #[] 3))) := Lib.hid (below_trans (below_trans (T_1.out) (below_alloc _ _)) (below_alloc _ _))
    have z_9 : w1.heap.size + 2 ≤ (((w1).alloc (.cells #[.int .i64 p, .int .i64 q, .slice a0 xs.length cap0] 29)).alloc (.cells #[] 3)).heap.size := (by simp)
    clear c_A0_1 c_A1_1 c_A2_1 c_R0_1 c_R1_1 c_R2_1 f_R0_1 f_R1_1 f_R2_1 o_e_1 T_1 ac_A0_1 bc_A0_1 ac_A1_1 bc_A1_1 ac_A2_1 bc_A2_1 ac_R0_1 bc_R0_1 ac_R1_1 bc_R1_1 ac_R2_1 bc_R2_1 af_R0_1 bf_R0_1 af_R1_1 bf_R1_1 af_R2_1 bf_R2_1
    generalize ((w1).alloc (.cells #[.int .i64 p, .int .i64 q, .slice a0 xs.length cap0] 29)).alloc (.cells #[] 3) = w9 at *
    exact ⟨p, [], xs, some ⟨w1.heap.size + 1, 0, none⟩, 0, a0, cap0, rfl, by simp, (by have h9 := z_9; exact own_base OG (by omega)), c_O0_9, c_O1_9, c_O2_9, f_O0_9, f_O1_9, f_O2_9, c_R0_9, c_R1_9, c_R2_9, f_R0_9, f_R1_9, f_R2_9, rdxb_mono (own_rdxb (o_e_9.out)) (by omega), fun g h => by have h1 := lo_e.out g h; have h2 := hi_e.out g h; omega, fun g h => by simp [Value.ownBlock] at h; subst h; exact ⟨by omega, fun g2 h2 => by have h3 := hi_e.out g2 h2; omega⟩, (T_9.out), by omega⟩
  case round =>
    obtain ⟨p1, Y, Z, ag, cg, a2, cap2, rfl, hyz, hog, c_O0_10, c_O1_10, c_O2_10, f_O0_10, f_O1_10, f_O2_10, c_R0_10, c_R1_10, c_R2_10, f_R0_10, f_R1_10, f_R2_10, hrd, hne, hng, hbl, hBO⟩ := hrel
    obtain ⟨w10, rfl⟩ : ∃ wo : World, wo = wr := ⟨_, rfl⟩
    have hz10 := hbl.size
    have o_g_10 := Lib.hid hog
    have lo_g := Lib.hid (own_lo hog)
    have hi_g := Lib.hid (own_hi hog)
    have HNE := Lib.hid hne
    have HNG := Lib.hid hng
    have T_10 := Lib.hid hbl
    clear hog hne hng hbl o_e_1 T_1 lo_e hi_e c_R0_1 c_R1_1 c_R2_1 f_R0_1 f_R1_1 f_R2_1 ac_A0_1 bc_A0_1 ac_A1_1 bc_A1_1 ac_A2_1 bc_A2_1 ac_R0_1 bc_R0_1 ac_R1_1 bc_R1_1 ac_R2_1 bc_R2_1 af_R0_1 bf_R0_1 af_R1_1 bf_R1_1 af_R2_1 bf_R2_1
    rcases Z with _ | ⟨x, Z⟩
    · have r_d_10 := Lib.hid hrd
      have lr_d := Lib.hid (rdxb_lo hrd)
      have hr_d := Lib.hid (rdxb_hi hrd)
      simp only [List.length_nil] at c_O2_10 r_d_10 lr_d hr_d
      clear hrd
      have ac_O0_10 := fun o => cell_b (c_O0_10) (below_alloc _ o)
      have bc_O0_10 := fun o o1 => cell_b (ac_O0_10 o) (below_alloc _ o1)
      have ac_O1_10 := fun o => cell_b (c_O1_10) (below_alloc _ o)
      have bc_O1_10 := fun o o1 => cell_b (ac_O1_10 o) (below_alloc _ o1)
      have ac_O2_10 := fun o => cell_b (c_O2_10) (below_alloc _ o)
      have bc_O2_10 := fun o o1 => cell_b (ac_O2_10 o) (below_alloc _ o1)
      have ac_R0_10 := fun o => cell_b (c_R0_10) (below_alloc _ o)
      have bc_R0_10 := fun o o1 => cell_b (ac_R0_10 o) (below_alloc _ o1)
      have ac_R1_10 := fun o => cell_b (c_R1_10) (below_alloc _ o)
      have bc_R1_10 := fun o o1 => cell_b (ac_R1_10 o) (below_alloc _ o1)
      have ac_R2_10 := fun o => cell_b (c_R2_10) (below_alloc _ o)
      have bc_R2_10 := fun o o1 => cell_b (ac_R2_10 o) (below_alloc _ o1)
      have af_O0_10 := fun o => frz_b (cell_lt (c_O0_10)) (f_O0_10) (below_alloc _ o)
      have bf_O0_10 := fun o o1 => frz_b (cell_lt (ac_O0_10 o)) (af_O0_10 o) (below_alloc _ o1)
      have af_O1_10 := fun o => frz_b (cell_lt (c_O1_10)) (f_O1_10) (below_alloc _ o)
      have bf_O1_10 := fun o o1 => frz_b (cell_lt (ac_O1_10 o)) (af_O1_10 o) (below_alloc _ o1)
      have af_O2_10 := fun o => frz_b (cell_lt (c_O2_10)) (f_O2_10) (below_alloc _ o)
      have bf_O2_10 := fun o o1 => frz_b (cell_lt (ac_O2_10 o)) (af_O2_10 o) (below_alloc _ o1)
      have af_R0_10 := fun o => frz_b (cell_lt (c_R0_10)) (f_R0_10) (below_alloc _ o)
      have bf_R0_10 := fun o o1 => frz_b (cell_lt (ac_R0_10 o)) (af_R0_10 o) (below_alloc _ o1)
      have af_R1_10 := fun o => frz_b (cell_lt (c_R1_10)) (f_R1_10) (below_alloc _ o)
      have bf_R1_10 := fun o o1 => frz_b (cell_lt (ac_R1_10 o)) (af_R1_10 o) (below_alloc _ o1)
      have af_R2_10 := fun o => frz_b (cell_lt (c_R2_10)) (f_R2_10) (below_alloc _ o)
      have bf_R2_10 := fun o o1 => frz_b (cell_lt (ac_R2_10 o)) (af_R2_10 o) (below_alloc _ o1)
      go_wp2_with fail
      go_quiet (fail)
      go_wp2_with fail
      refine bodyPost_ret (v := .tuple #[.agg #[.int .i64 p1, .int .i64 q, .slice a2 (0) cap2], .slice ag Y.length cg]) (by simp [results, Tryd.results45, go_sem, c_R0_10, c_R1_10, c_R2_10]) rfl ⟨p1, q, [], Y, a2, cap2, ag, cg, rfl, by first | omega | (simp at hyz ⊢; omega), rdxb_mono (rdxb_set (p := ⟨w.heap.size + 1, 2, none⟩) (rdxb_set (p := ⟨w.heap.size + 1, 1, none⟩) (rdxb_set (p := ⟨w.heap.size + 1, 0, none⟩) (rdxb_b (r_d_10.out) (drewN_below _ _)) (fun g h => by have h1 := lr_d.out g h; have h2 := hr_d.out g h; have h9 := HNE.out g h; show g ≠ w.heap.size + 1; omega) _) (fun g h => by have h1 := lr_d.out g h; have h2 := hr_d.out g h; have h9 := HNE.out g h; show g ≠ w.heap.size + 1; omega) _) (fun g h => by have h1 := lr_d.out g h; have h2 := hr_d.out g h; have h9 := HNE.out g h; show g ≠ w.heap.size + 1; omega) _) (by omega), rdb_mono (ow_rdb (own_set (p := ⟨w.heap.size + 1, 2, none⟩) (own_set (p := ⟨w.heap.size + 1, 1, none⟩) (own_set (p := ⟨w.heap.size + 1, 0, none⟩) (own_below (o_g_10.out) (drewN_below _ _)) (fun g h => by have h1 := lo_g.out g h; have h2 := hi_g.out g h; have h9 := (HNG.out g h).1; show g ≠ w.heap.size + 1; omega) _) (fun g h => by have h1 := lo_g.out g h; have h2 := hi_g.out g h; have h9 := (HNG.out g h).1; show g ≠ w.heap.size + 1; omega) _) (fun g h => by have h1 := lo_g.out g h; have h2 := hi_g.out g h; have h9 := (HNG.out g h).1; show g ≠ w.heap.size + 1; omega) _)) (by omega), ((((below_trans (T_10.out) (drewN_below _ _)).setCell (p := ⟨w.heap.size + 1, 0, none⟩) (by show w.heap.size ≤ w.heap.size + 1; omega) _).setCell (p := ⟨w.heap.size + 1, 1, none⟩) (by show w.heap.size ≤ w.heap.size + 1; omega) _).setCell (p := ⟨w.heap.size + 1, 2, none⟩) (by show w.heap.size ≤ w.heap.size + 1; omega) _)⟩
    · have r_d_10 := Lib.hid hrd
      have lr_d := Lib.hid (rdxb_lo hrd)
      have hr_d := Lib.hid (rdxb_hi hrd)
      obtain ⟨gx, ox, rfl, hn9, hcap9, hx1, hx2, hg9, hB9, htl⟩ := rdwb_uncons hrd
      have HTL := Lib.hid htl
      have c_X0_10 := hx1
      have c_X1_10 := hx2
      have hgO : gx ≠ w1.heap.size := HNE.out gx rfl
      have HGG : Hid (∀ k, (Value.slice ag Y.length cg).ownBlock = some k → gx ≠ k) := Lib.hid (fun k hk => (HNG.out k hk).2 gx rfl)
      simp only [List.length_cons] at c_O2_10 hyz r_d_10 lr_d hr_d
      clear htl hx1 hx2 hrd hn9
      obtain ⟨x1, x2⟩ := x
      simp only at c_X0_10 c_X1_10
      have ac_O0_10 := fun o => cell_b (c_O0_10) (below_alloc _ o)
      have bc_O0_10 := fun o o1 => cell_b (ac_O0_10 o) (below_alloc _ o1)
      have ac_O1_10 := fun o => cell_b (c_O1_10) (below_alloc _ o)
      have bc_O1_10 := fun o o1 => cell_b (ac_O1_10 o) (below_alloc _ o1)
      have ac_O2_10 := fun o => cell_b (c_O2_10) (below_alloc _ o)
      have bc_O2_10 := fun o o1 => cell_b (ac_O2_10 o) (below_alloc _ o1)
      have ac_R0_10 := fun o => cell_b (c_R0_10) (below_alloc _ o)
      have bc_R0_10 := fun o o1 => cell_b (ac_R0_10 o) (below_alloc _ o1)
      have ac_R1_10 := fun o => cell_b (c_R1_10) (below_alloc _ o)
      have bc_R1_10 := fun o o1 => cell_b (ac_R1_10 o) (below_alloc _ o1)
      have ac_R2_10 := fun o => cell_b (c_R2_10) (below_alloc _ o)
      have bc_R2_10 := fun o o1 => cell_b (ac_R2_10 o) (below_alloc _ o1)
      have ac_X0_10 := fun o => cell_b (c_X0_10) (below_alloc _ o)
      have bc_X0_10 := fun o o1 => cell_b (ac_X0_10 o) (below_alloc _ o1)
      have ac_X1_10 := fun o => cell_b (c_X1_10) (below_alloc _ o)
      have bc_X1_10 := fun o o1 => cell_b (ac_X1_10 o) (below_alloc _ o1)
      have af_O0_10 := fun o => frz_b (cell_lt (c_O0_10)) (f_O0_10) (below_alloc _ o)
      have bf_O0_10 := fun o o1 => frz_b (cell_lt (ac_O0_10 o)) (af_O0_10 o) (below_alloc _ o1)
      have af_O1_10 := fun o => frz_b (cell_lt (c_O1_10)) (f_O1_10) (below_alloc _ o)
      have bf_O1_10 := fun o o1 => frz_b (cell_lt (ac_O1_10 o)) (af_O1_10 o) (below_alloc _ o1)
      have af_O2_10 := fun o => frz_b (cell_lt (c_O2_10)) (f_O2_10) (below_alloc _ o)
      have bf_O2_10 := fun o o1 => frz_b (cell_lt (ac_O2_10 o)) (af_O2_10 o) (below_alloc _ o1)
      have af_R0_10 := fun o => frz_b (cell_lt (c_R0_10)) (f_R0_10) (below_alloc _ o)
      have bf_R0_10 := fun o o1 => frz_b (cell_lt (ac_R0_10 o)) (af_R0_10 o) (below_alloc _ o1)
      have af_R1_10 := fun o => frz_b (cell_lt (c_R1_10)) (f_R1_10) (below_alloc _ o)
      have bf_R1_10 := fun o o1 => frz_b (cell_lt (ac_R1_10 o)) (af_R1_10 o) (below_alloc _ o1)
      have af_R2_10 := fun o => frz_b (cell_lt (c_R2_10)) (f_R2_10) (below_alloc _ o)
      have bf_R2_10 := fun o o1 => frz_b (cell_lt (ac_R2_10 o)) (af_R2_10 o) (below_alloc _ o1)
      by_cases hle : x2 ≤ p1
      · by_cases hc1 : cap2 = 1
        · obtain rfl : Z = [] := List.eq_nil_of_length_eq_zero (by omega)
          subst hc1
          have r_t_10 := Lib.hid (HTL.out ox (.inr rfl))
          simp only [List.length_nil, Nat.zero_add, Nat.sub_self] at c_O2_10 r_t_10
          clear HTL
          have lr_t := Lib.hid (rdxb_lo r_t_10.out)
          have hr_t := Lib.hid (rdxb_hi r_t_10.out)
          clear ac_O0_10 bc_O0_10 ac_O1_10 bc_O1_10 ac_O2_10 bc_O2_10 ac_R0_10 bc_R0_10 ac_R1_10 bc_R1_10 ac_R2_10 bc_R2_10 ac_X0_10 bc_X0_10 ac_X1_10 bc_X1_10 af_O0_10 bf_O0_10 af_O1_10 bf_O1_10 af_O2_10 bf_O2_10 af_R0_10 bf_R0_10 af_R1_10 bf_R1_10 af_R2_10 bf_R2_10
          have ac_O0_10 := fun o => cell_b (c_O0_10) (below_alloc _ o)
          have bc_O0_10 := fun o o1 => cell_b (ac_O0_10 o) (below_alloc _ o1)
          have ac_O1_10 := fun o => cell_b (c_O1_10) (below_alloc _ o)
          have bc_O1_10 := fun o o1 => cell_b (ac_O1_10 o) (below_alloc _ o1)
          have ac_O2_10 := fun o => cell_b (c_O2_10) (below_alloc _ o)
          have bc_O2_10 := fun o o1 => cell_b (ac_O2_10 o) (below_alloc _ o1)
          have ac_R0_10 := fun o => cell_b (c_R0_10) (below_alloc _ o)
          have bc_R0_10 := fun o o1 => cell_b (ac_R0_10 o) (below_alloc _ o1)
          have ac_R1_10 := fun o => cell_b (c_R1_10) (below_alloc _ o)
          have bc_R1_10 := fun o o1 => cell_b (ac_R1_10 o) (below_alloc _ o1)
          have ac_R2_10 := fun o => cell_b (c_R2_10) (below_alloc _ o)
          have bc_R2_10 := fun o o1 => cell_b (ac_R2_10 o) (below_alloc _ o1)
          have ac_X0_10 := fun o => cell_b (c_X0_10) (below_alloc _ o)
          have bc_X0_10 := fun o o1 => cell_b (ac_X0_10 o) (below_alloc _ o1)
          have ac_X1_10 := fun o => cell_b (c_X1_10) (below_alloc _ o)
          have bc_X1_10 := fun o o1 => cell_b (ac_X1_10 o) (below_alloc _ o1)
          have af_O0_10 := fun o => frz_b (cell_lt (c_O0_10)) (f_O0_10) (below_alloc _ o)
          have bf_O0_10 := fun o o1 => frz_b (cell_lt (ac_O0_10 o)) (af_O0_10 o) (below_alloc _ o1)
          have af_O1_10 := fun o => frz_b (cell_lt (c_O1_10)) (f_O1_10) (below_alloc _ o)
          have bf_O1_10 := fun o o1 => frz_b (cell_lt (ac_O1_10 o)) (af_O1_10 o) (below_alloc _ o1)
          have af_O2_10 := fun o => frz_b (cell_lt (c_O2_10)) (f_O2_10) (below_alloc _ o)
          have bf_O2_10 := fun o o1 => frz_b (cell_lt (ac_O2_10 o)) (af_O2_10 o) (below_alloc _ o1)
          have af_R0_10 := fun o => frz_b (cell_lt (c_R0_10)) (f_R0_10) (below_alloc _ o)
          have bf_R0_10 := fun o o1 => frz_b (cell_lt (ac_R0_10 o)) (af_R0_10 o) (below_alloc _ o1)
          have af_R1_10 := fun o => frz_b (cell_lt (c_R1_10)) (f_R1_10) (below_alloc _ o)
          have bf_R1_10 := fun o o1 => frz_b (cell_lt (ac_R1_10 o)) (af_R1_10 o) (below_alloc _ o1)
          have af_R2_10 := fun o => frz_b (cell_lt (c_R2_10)) (f_R2_10) (below_alloc _ o)
          have bf_R2_10 := fun o o1 => frz_b (cell_lt (ac_R2_10 o)) (af_R2_10 o) (below_alloc _ o1)
          go_wp2_with fail
          go_quiet (fail)
          go_wp2_with fail
          go_region
          have c_O0_11 : (((w10).drewN (nq + 1)).setCell ⟨w1.heap.size, 0, none⟩ (.int .i64 (wrap64 (p1 - x2)))).cell? ⟨w1.heap.size, 0, none⟩ = some (.int .i64 (wrap64 (p1 - x2))) := World.cell?_setCell_same _ _ _ (cell_b (c_O0_10) (drewN_below _ _))
          have c_O1_11 : (((w10).drewN (nq + 1)).setCell ⟨w1.heap.size, 0, none⟩ (.int .i64 (wrap64 (p1 - x2)))).cell? ⟨w1.heap.size, 1, none⟩ = some (.int .i64 q) := cell_set (p := ⟨w1.heap.size, 0, none⟩) (cell_b (c_O1_10) (drewN_below _ _)) (ne_off (by decide))
          have c_O2_11 : (((w10).drewN (nq + 1)).setCell ⟨w1.heap.size, 0, none⟩ (.int .i64 (wrap64 (p1 - x2)))).cell? ⟨w1.heap.size, 2, none⟩ = some (.slice (some ⟨gx, ox, none⟩) 1 1) := cell_set (p := ⟨w1.heap.size, 0, none⟩) (cell_b (c_O2_10) (drewN_below _ _)) (ne_off (by decide))
          have c_R0_11 : (((w10).drewN (nq + 1)).setCell ⟨w1.heap.size, 0, none⟩ (.int .i64 (wrap64 (p1 - x2)))).cell? ⟨w.heap.size + 1, 0, none⟩ = some (.int .i64 0) := cell_set (p := ⟨w1.heap.size, 0, none⟩) (cell_b (c_R0_10) (drewN_below _ _)) (ne_blk (by omega))
          have c_R1_11 : (((w10).drewN (nq + 1)).setCell ⟨w1.heap.size, 0, none⟩ (.int .i64 (wrap64 (p1 - x2)))).cell? ⟨w.heap.size + 1, 1, none⟩ = some (.int .i64 0) := cell_set (p := ⟨w1.heap.size, 0, none⟩) (cell_b (c_R1_10) (drewN_below _ _)) (ne_blk (by omega))
          have c_R2_11 : (((w10).drewN (nq + 1)).setCell ⟨w1.heap.size, 0, none⟩ (.int .i64 (wrap64 (p1 - x2)))).cell? ⟨w.heap.size + 1, 2, none⟩ = some (.slice none 0 0) := cell_set (p := ⟨w1.heap.size, 0, none⟩) (cell_b (c_R2_10) (drewN_below _ _)) (ne_blk (by omega))
          have c_X0_11 : (((w10).drewN (nq + 1)).setCell ⟨w1.heap.size, 0, none⟩ (.int .i64 (wrap64 (p1 - x2)))).cell? ⟨gx, ox, none⟩ = some (.int .i64 x1) := cell_set (p := ⟨w1.heap.size, 0, none⟩) (cell_b (c_X0_10) (drewN_below _ _)) (ne_blk (by omega))
          have c_X1_11 : (((w10).drewN (nq + 1)).setCell ⟨w1.heap.size, 0, none⟩ (.int .i64 (wrap64 (p1 - x2)))).cell? ⟨gx, ox + 1, none⟩ = some (.int .i64 x2) := cell_set (p := ⟨w1.heap.size, 0, none⟩) (cell_b (c_X1_10) (drewN_below _ _)) (ne_blk (by omega))
          have f_O0_11 : (((w10).drewN (nq + 1)).setCell ⟨w1.heap.size, 0, none⟩ (.int .i64 (wrap64 (p1 - x2)))).frozen? ⟨w1.heap.size, 0, none⟩ = false := (World.frozen?_setCell _ _ _ _).trans (frz_b (cell_lt (c_O0_10)) (f_O0_10) (drewN_below _ _))
          have f_O1_11 : (((w10).drewN (nq + 1)).setCell ⟨w1.heap.size, 0, none⟩ (.int .i64 (wrap64 (p1 - x2)))).frozen? ⟨w1.heap.size, 1, none⟩ = false := (World.frozen?_setCell _ _ _ _).trans (frz_b (cell_lt (c_O1_10)) (f_O1_10) (drewN_below _ _))
          have f_O2_11 : (((w10).drewN (nq + 1)).setCell ⟨w1.heap.size, 0, none⟩ (.int .i64 (wrap64 (p1 - x2)))).frozen? ⟨w1.heap.size, 2, none⟩ = false := (World.frozen?_setCell _ _ _ _).trans (frz_b (cell_lt (c_O2_10)) (f_O2_10) (drewN_below _ _))
          have f_R0_11 : (((w10).drewN (nq + 1)).setCell ⟨w1.heap.size, 0, none⟩ (.int .i64 (wrap64 (p1 - x2)))).frozen? ⟨w.heap.size + 1, 0, none⟩ = false := (World.frozen?_setCell _ _ _ _).trans (frz_b (cell_lt (c_R0_10)) (f_R0_10) (drewN_below _ _))
          have f_R1_11 : (((w10).drewN (nq + 1)).setCell ⟨w1.heap.size, 0, none⟩ (.int .i64 (wrap64 (p1 - x2)))).frozen? ⟨w.heap.size + 1, 1, none⟩ = false := (World.frozen?_setCell _ _ _ _).trans (frz_b (cell_lt (c_R1_10)) (f_R1_10) (drewN_below _ _))
          have f_R2_11 : (((w10).drewN (nq + 1)).setCell ⟨w1.heap.size, 0, none⟩ (.int .i64 (wrap64 (p1 - x2)))).frozen? ⟨w.heap.size + 1, 2, none⟩ = false := (World.frozen?_setCell _ _ _ _).trans (frz_b (cell_lt (c_R2_10)) (f_R2_10) (drewN_below _ _))
          have o_g_11 : Hid ((((w10).drewN (nq + 1)).setCell ⟨w1.heap.size, 0, none⟩ (.int .i64 (wrap64 (p1 - x2)))).ownsRow ((w.heap.size + 1)) 3 1 (.slice ag Y.length cg) ((Y).length) (ints (Y))) := Lib.hid ((own_set (p := ⟨w1.heap.size, 0, none⟩) (own_below (o_g_10.out) (drewN_below _ _)) (fun g h => by have h1 := lo_g.out g h; have h2 := hi_g.out g h; have h9 := (HNG.out g h).1; have h8 := HGG.out g h; show g ≠ w1.heap.size; omega) _))
          have r_t_11 : Hid (RdWB (((w10).drewN (nq + 1)).setCell ⟨w1.heap.size, 0, none⟩ (.int .i64 (wrap64 (p1 - x2)))) (w.heap.size + 2) (.slice (some ⟨gx, ox, none⟩) 0 0) (([] : List (Int × Int)))) := Lib.hid ((rdxb_set (p := ⟨w1.heap.size, 0, none⟩) (rdxb_b (r_t_10.out) (drewN_below _ _)) (fun g h => by have h1 := lr_t.out g h; have h2 := hr_t.out g h; have h9 : g = gx := (by simp only [Value.ownBlock, Option.some.injEq] at h; omega); show g ≠ w1.heap.size; omega) _))
          have T_11 : Hid (Below w.heap.size w (((w10).drewN (nq + 1)).setCell ⟨w1.heap.size, 0, none⟩ (.int .i64 (wrap64 (p1 - x2))))) := Lib.hid ((below_trans (T_10.out) (drewN_below _ _)).setCell (p := ⟨w1.heap.size, 0, none⟩) (by show w.heap.size ≤ w1.heap.size; omega) _)
          have z_11 : w10.heap.size ≤ (((w10).drewN (nq + 1)).setCell ⟨w1.heap.size, 0, none⟩ (.int .i64 (wrap64 (p1 - x2)))).heap.size := (by simp)
          clear c_O0_10 c_O1_10 c_O2_10 c_R0_10 c_R1_10 c_R2_10 c_X0_10 c_X1_10 f_O0_10 f_O1_10 f_O2_10 f_R0_10 f_R1_10 f_R2_10 o_g_10 r_t_10 T_10 ac_O0_10 bc_O0_10 ac_O1_10 bc_O1_10 ac_O2_10 bc_O2_10 ac_R0_10 bc_R0_10 ac_R1_10 bc_R1_10 ac_R2_10 bc_R2_10 ac_X0_10 bc_X0_10 ac_X1_10 bc_X1_10 af_O0_10 bf_O0_10 af_O1_10 bf_O1_10 af_O2_10 bf_O2_10 af_R0_10 bf_R0_10 af_R1_10 bf_R1_10 af_R2_10 bf_R2_10
          generalize ((w10).drewN (nq + 1)).setCell ⟨w1.heap.size, 0, none⟩ (.int .i64 (wrap64 (p1 - x2))) = w11 at *
          have ac_O0_11 := fun o => cell_b (c_O0_11) (below_alloc _ o)
          have bc_O0_11 := fun o o1 => cell_b (ac_O0_11 o) (below_alloc _ o1)
          have ac_O1_11 := fun o => cell_b (c_O1_11) (below_alloc _ o)
          have bc_O1_11 := fun o o1 => cell_b (ac_O1_11 o) (below_alloc _ o1)
          have ac_O2_11 := fun o => cell_b (c_O2_11) (below_alloc _ o)
          have bc_O2_11 := fun o o1 => cell_b (ac_O2_11 o) (below_alloc _ o1)
          have ac_R0_11 := fun o => cell_b (c_R0_11) (below_alloc _ o)
          have bc_R0_11 := fun o o1 => cell_b (ac_R0_11 o) (below_alloc _ o1)
          have ac_R1_11 := fun o => cell_b (c_R1_11) (below_alloc _ o)
          have bc_R1_11 := fun o o1 => cell_b (ac_R1_11 o) (below_alloc _ o1)
          have ac_R2_11 := fun o => cell_b (c_R2_11) (below_alloc _ o)
          have bc_R2_11 := fun o o1 => cell_b (ac_R2_11 o) (below_alloc _ o1)
          have ac_X0_11 := fun o => cell_b (c_X0_11) (below_alloc _ o)
          have bc_X0_11 := fun o o1 => cell_b (ac_X0_11 o) (below_alloc _ o1)
          have ac_X1_11 := fun o => cell_b (c_X1_11) (below_alloc _ o)
          have bc_X1_11 := fun o o1 => cell_b (ac_X1_11 o) (below_alloc _ o1)
          have af_O0_11 := fun o => frz_b (cell_lt (c_O0_11)) (f_O0_11) (below_alloc _ o)
          have bf_O0_11 := fun o o1 => frz_b (cell_lt (ac_O0_11 o)) (af_O0_11 o) (below_alloc _ o1)
          have af_O1_11 := fun o => frz_b (cell_lt (c_O1_11)) (f_O1_11) (below_alloc _ o)
          have bf_O1_11 := fun o o1 => frz_b (cell_lt (ac_O1_11 o)) (af_O1_11 o) (below_alloc _ o1)
          have af_O2_11 := fun o => frz_b (cell_lt (c_O2_11)) (f_O2_11) (below_alloc _ o)
          have bf_O2_11 := fun o o1 => frz_b (cell_lt (ac_O2_11 o)) (af_O2_11 o) (below_alloc _ o1)
          have af_R0_11 := fun o => frz_b (cell_lt (c_R0_11)) (f_R0_11) (below_alloc _ o)
          have bf_R0_11 := fun o o1 => frz_b (cell_lt (ac_R0_11 o)) (af_R0_11 o) (below_alloc _ o1)
          have af_R1_11 := fun o => frz_b (cell_lt (c_R1_11)) (f_R1_11) (below_alloc _ o)
          have bf_R1_11 := fun o o1 => frz_b (cell_lt (ac_R1_11 o)) (af_R1_11 o) (below_alloc _ o1)
          have af_R2_11 := fun o => frz_b (cell_lt (c_R2_11)) (f_R2_11) (below_alloc _ o)
          have bf_R2_11 := fun o o1 => frz_b (cell_lt (ac_R2_11 o)) (af_R2_11 o) (below_alloc _ o1)
          have tok13 : True := trivial
          have tok12 : True := trivial
          go_wp2_with (first | (at_builtin; have _t := tok12; refine wpList_append_own_at _ rfl _ _ 60 rfl ((w.heap.size + 1)) 3 i0 (.int .i64 0) 1 8 Tryd.underlying60 hi hz0 hz1 hz2 rfl (by decide) (.slice ag Y.length cg) ((Y).length) (ints (Y)) rfl (own_below (o_g_11.out) (below_alloc _ _)) ⟨w11.heap.size, 0, none⟩ 1 1 [.int .i64 (x1)] rfl rfl (cell_one_new _ _ _) (ints_oneCell .i64 [x1]) (by unfold maxLen; omega) (by omega) (by first | omega | (simp; done) | (simp; omega)) ?_; intro v12 w12 hown hgr _ hloc; clear tok12; have ho : w12.ownsRow ((w.heap.size + 1)) 3 1 v12 ((Y).length + 1) (ints (Y ++ [x1])) := (by rw [ints_append]; exact hown); obtain ⟨a5, c5, hv⟩ := own_shape ho; subst hv; have iv_k : Hid (∀ g, (Value.slice a5 ((Y).length + 1) c5).ownBlock = some g → (w1.heap.size + 1 ≤ g ∧ g < w10.heap.size) ∨ (w11.heap.size + 1 ≤ g ∧ g < w12.heap.size)) := Lib.hid (fun g h => by have h9 := hgr.size; have h7 := own_hi ho g h; rcases hloc with h8 | h8 <;> rw [h8] at h <;> first | (have h1 := lo_g.out g h; have h2 := hi_g.out g h; have h9 := (HNG.out g h).1; have h8 := HGG.out g h; (try simp at h9); omega) | (injection h with h; (try simp at h9); (try simp at h); omega)); have c_O0_12 := cell_gr (cell_b (c_O0_11) (below_alloc _ _)) hgr (fun g h => by have h1 := lo_g.out g h; have h2 := hi_g.out g h; have h9 := (HNG.out g h).1; have h8 := HGG.out g h; show w1.heap.size ≠ g; omega); have c_O1_12 := cell_gr (cell_b (c_O1_11) (below_alloc _ _)) hgr (fun g h => by have h1 := lo_g.out g h; have h2 := hi_g.out g h; have h9 := (HNG.out g h).1; have h8 := HGG.out g h; show w1.heap.size ≠ g; omega); have c_O2_12 := cell_gr (cell_b (c_O2_11) (below_alloc _ _)) hgr (fun g h => by have h1 := lo_g.out g h; have h2 := hi_g.out g h; have h9 := (HNG.out g h).1; have h8 := HGG.out g h; show w1.heap.size ≠ g; omega); have c_R0_12 := cell_gr (cell_b (c_R0_11) (below_alloc _ _)) hgr (fun g h => by have h1 := lo_g.out g h; have h2 := hi_g.out g h; have h9 := (HNG.out g h).1; have h8 := HGG.out g h; show w.heap.size + 1 ≠ g; omega); have c_R1_12 := cell_gr (cell_b (c_R1_11) (below_alloc _ _)) hgr (fun g h => by have h1 := lo_g.out g h; have h2 := hi_g.out g h; have h9 := (HNG.out g h).1; have h8 := HGG.out g h; show w.heap.size + 1 ≠ g; omega); have c_R2_12 := cell_gr (cell_b (c_R2_11) (below_alloc _ _)) hgr (fun g h => by have h1 := lo_g.out g h; have h2 := hi_g.out g h; have h9 := (HNG.out g h).1; have h8 := HGG.out g h; show w.heap.size + 1 ≠ g; omega); have c_X0_12 := cell_gr (cell_b (c_X0_11) (below_alloc _ _)) hgr (fun g h => by have h1 := lo_g.out g h; have h2 := hi_g.out g h; have h9 := (HNG.out g h).1; have h8 := HGG.out g h; show gx ≠ g; omega); have c_X1_12 := cell_gr (cell_b (c_X1_11) (below_alloc _ _)) hgr (fun g h => by have h1 := lo_g.out g h; have h2 := hi_g.out g h; have h9 := (HNG.out g h).1; have h8 := HGG.out g h; show gx ≠ g; omega); have f_O0_12 := (frz_gr (p := ⟨w1.heap.size, 0, none⟩) (cell_lt (cell_b (c_O0_11) (below_alloc _ _))) hgr (fun g h => by have h1 := lo_g.out g h; have h2 := hi_g.out g h; have h9 := (HNG.out g h).1; have h8 := HGG.out g h; show w1.heap.size ≠ g; omega)).trans (frz_b (cell_lt (c_O0_11)) (f_O0_11) (below_alloc _ _)); have f_O1_12 := (frz_gr (p := ⟨w1.heap.size, 1, none⟩) (cell_lt (cell_b (c_O1_11) (below_alloc _ _))) hgr (fun g h => by have h1 := lo_g.out g h; have h2 := hi_g.out g h; have h9 := (HNG.out g h).1; have h8 := HGG.out g h; show w1.heap.size ≠ g; omega)).trans (frz_b (cell_lt (c_O1_11)) (f_O1_11) (below_alloc _ _)); have f_O2_12 := (frz_gr (p := ⟨w1.heap.size, 2, none⟩) (cell_lt (cell_b (c_O2_11) (below_alloc _ _))) hgr (fun g h => by have h1 := lo_g.out g h; have h2 := hi_g.out g h; have h9 := (HNG.out g h).1; have h8 := HGG.out g h; show w1.heap.size ≠ g; omega)).trans (frz_b (cell_lt (c_O2_11)) (f_O2_11) (below_alloc _ _)); have f_R0_12 := (frz_gr (p := ⟨w.heap.size + 1, 0, none⟩) (cell_lt (cell_b (c_R0_11) (below_alloc _ _))) hgr (fun g h => by have h1 := lo_g.out g h; have h2 := hi_g.out g h; have h9 := (HNG.out g h).1; have h8 := HGG.out g h; show w.heap.size + 1 ≠ g; omega)).trans (frz_b (cell_lt (c_R0_11)) (f_R0_11) (below_alloc _ _)); have f_R1_12 := (frz_gr (p := ⟨w.heap.size + 1, 1, none⟩) (cell_lt (cell_b (c_R1_11) (below_alloc _ _))) hgr (fun g h => by have h1 := lo_g.out g h; have h2 := hi_g.out g h; have h9 := (HNG.out g h).1; have h8 := HGG.out g h; show w.heap.size + 1 ≠ g; omega)).trans (frz_b (cell_lt (c_R1_11)) (f_R1_11) (below_alloc _ _)); have f_R2_12 := (frz_gr (p := ⟨w.heap.size + 1, 2, none⟩) (cell_lt (cell_b (c_R2_11) (below_alloc _ _))) hgr (fun g h => by have h1 := lo_g.out g h; have h2 := hi_g.out g h; have h9 := (HNG.out g h).1; have h8 := HGG.out g h; show w.heap.size + 1 ≠ g; omega)).trans (frz_b (cell_lt (c_R2_11)) (f_R2_11) (below_alloc _ _)); have r_t_12 := Lib.hid (rdxb_gr (rdxb_b (r_t_11.out) (below_alloc _ _)) hgr (fun g g' h h' => by have h1 := lo_g.out g h; have h2 := hi_g.out g h; have h9 := (HNG.out g h).1; have h8 := HGG.out g h; have h3 := lr_t.out g' h'; have h4 := hr_t.out g' h'; have h9 : g' = gx := (by simp only [Value.ownBlock, Option.some.injEq] at h'; omega); omega)); have T_12 := Lib.hid (below_gr (below_trans (T_11.out) (below_alloc _ _)) (by first | omega | (simp; done) | (simp; omega)) hgr (fun g h => by have h1 := lo_g.out g h; have h2 := hi_g.out g h; have h9 := (HNG.out g h).1; have h8 := HGG.out g h; omega)); have z_12 : w11.heap.size + 1 ≤ w12.heap.size := (by have := hgr.size; (try simp at this); omega); have o_k_12 := Lib.hid ho; have lo_k := Lib.hid (own_lo o_k_12.out); have hi_k := Lib.hid (own_hi o_k_12.out); have ac_O0_12 := fun o => cell_b (c_O0_12) (below_alloc _ o); have bc_O0_12 := fun o o1 => cell_b (ac_O0_12 o) (below_alloc _ o1); have ac_O1_12 := fun o => cell_b (c_O1_12) (below_alloc _ o); have bc_O1_12 := fun o o1 => cell_b (ac_O1_12 o) (below_alloc _ o1); have ac_O2_12 := fun o => cell_b (c_O2_12) (below_alloc _ o); have bc_O2_12 := fun o o1 => cell_b (ac_O2_12 o) (below_alloc _ o1); have ac_R0_12 := fun o => cell_b (c_R0_12) (below_alloc _ o); have bc_R0_12 := fun o o1 => cell_b (ac_R0_12 o) (below_alloc _ o1); have ac_R1_12 := fun o => cell_b (c_R1_12) (below_alloc _ o); have bc_R1_12 := fun o o1 => cell_b (ac_R1_12 o) (below_alloc _ o1); have ac_R2_12 := fun o => cell_b (c_R2_12) (below_alloc _ o); have bc_R2_12 := fun o o1 => cell_b (ac_R2_12 o) (below_alloc _ o1); have ac_X0_12 := fun o => cell_b (c_X0_12) (below_alloc _ o); have bc_X0_12 := fun o o1 => cell_b (ac_X0_12 o) (below_alloc _ o1); have ac_X1_12 := fun o => cell_b (c_X1_12) (below_alloc _ o); have bc_X1_12 := fun o o1 => cell_b (ac_X1_12 o) (below_alloc _ o1); have af_O0_12 := fun o => frz_b (cell_lt (c_O0_12)) (f_O0_12) (below_alloc _ o); have bf_O0_12 := fun o o1 => frz_b (cell_lt (ac_O0_12 o)) (af_O0_12 o) (below_alloc _ o1); have af_O1_12 := fun o => frz_b (cell_lt (c_O1_12)) (f_O1_12) (below_alloc _ o); have bf_O1_12 := fun o o1 => frz_b (cell_lt (ac_O1_12 o)) (af_O1_12 o) (below_alloc _ o1); have af_O2_12 := fun o => frz_b (cell_lt (c_O2_12)) (f_O2_12) (below_alloc _ o); have bf_O2_12 := fun o o1 => frz_b (cell_lt (ac_O2_12 o)) (af_O2_12 o) (below_alloc _ o1); have af_R0_12 := fun o => frz_b (cell_lt (c_R0_12)) (f_R0_12) (below_alloc _ o); have bf_R0_12 := fun o o1 => frz_b (cell_lt (ac_R0_12 o)) (af_R0_12 o) (below_alloc _ o1); have af_R1_12 := fun o => frz_b (cell_lt (c_R1_12)) (f_R1_12) (below_alloc _ o); have bf_R1_12 := fun o o1 => frz_b (cell_lt (ac_R1_12 o)) (af_R1_12 o) (below_alloc _ o1); have af_R2_12 := fun o => frz_b (cell_lt (c_R2_12)) (f_R2_12) (below_alloc _ o); have bf_R2_12 := fun o o1 => frz_b (cell_lt (ac_R2_12 o)) (af_R2_12 o) (below_alloc _ o1); clear hgr c_O0_11 c_O1_11 c_O2_11 c_R0_11 c_R1_11 c_R2_11 c_X0_11 c_X1_11 f_O0_11 f_O1_11 f_O2_11 f_R0_11 f_R1_11 f_R2_11 r_t_11 T_11 ac_O0_11 bc_O0_11 ac_O1_11 bc_O1_11 ac_O2_11 bc_O2_11 ac_R0_11 bc_R0_11 ac_R1_11 bc_R1_11 ac_R2_11 bc_R2_11 ac_X0_11 bc_X0_11 ac_X1_11 bc_X1_11 af_O0_11 bf_O0_11 af_O1_11 bf_O1_11 af_O2_11 bf_O2_11 af_R0_11 bf_R0_11 af_R1_11 bf_R1_11 af_R2_11 bf_R2_11 hown ho hloc o_g_11 lo_g hi_g) | (at_builtin; have _t := tok13; refine wpList_append_rdx (by rfl) _ _ 27 rfl (w12.heap.size) 42 2 16 (.agg #[.int .i64 0, .int .i64 0]) j0 Tryd.underlying27 hj hy0 hy1 hy2 rfl (by decide) (.slice (some ⟨w12.heap.size, 0, none⟩) 0 0) (0) ([]) rfl (owp_made_at (w12) (w12.heap.size) (w12.heap.size) (by first | rfl | simp) (Nat.le_refl _)) _ _ _ (prs (([] : List (Int × Int)))) rfl (rdxb_x (rdxb_b (r_t_12.out) (below_alloc _ _))) prs_one (by first | (unfold maxLen; omega) | (unfold maxLen; simp; omega)) (by first | omega | (simp; omega)) (by first | omega | (simp; done) | (simp; omega)) ?_; intro v13 w13 hown hgr hloc; clear tok13; have ho : w13.ownsRow (w12.heap.size) 42 2 v13 (0) (prs (([] : List (Int × Int)))) := (by rw [Nat.zero_add, List.nil_append] at hown; exact hown); obtain ⟨a6, c6, hv⟩ := own_shape ho; subst hv; have iv_n : Hid (∀ g, (Value.slice a6 (0) c6).ownBlock = some g → (w12.heap.size ≤ g ∧ g < w12.heap.size + 1) ∨ (w12.heap.size + 1 ≤ g ∧ g < w13.heap.size)) := Lib.hid (fun g h => by have h9 := hgr.size; have h7 := own_hi ho g h; rcases hloc with h8 | h8 <;> rw [h8] at h <;> (simp only [Value.ownBlock, Option.some.injEq] at h; (try simp at h9); (try simp at h); omega)); have c_O0_13 := cell_gr (cell_b (c_O0_12) (below_alloc _ _)) hgr (fun g h => by simp only [Value.ownBlock, Option.some.injEq] at h; show w1.heap.size ≠ g; omega); have c_O1_13 := cell_gr (cell_b (c_O1_12) (below_alloc _ _)) hgr (fun g h => by simp only [Value.ownBlock, Option.some.injEq] at h; show w1.heap.size ≠ g; omega); have c_O2_13 := cell_gr (cell_b (c_O2_12) (below_alloc _ _)) hgr (fun g h => by simp only [Value.ownBlock, Option.some.injEq] at h; show w1.heap.size ≠ g; omega); have c_R0_13 := cell_gr (cell_b (c_R0_12) (below_alloc _ _)) hgr (fun g h => by simp only [Value.ownBlock, Option.some.injEq] at h; show w.heap.size + 1 ≠ g; omega); have c_R1_13 := cell_gr (cell_b (c_R1_12) (below_alloc _ _)) hgr (fun g h => by simp only [Value.ownBlock, Option.some.injEq] at h; show w.heap.size + 1 ≠ g; omega); have c_R2_13 := cell_gr (cell_b (c_R2_12) (below_alloc _ _)) hgr (fun g h => by simp only [Value.ownBlock, Option.some.injEq] at h; show w.heap.size + 1 ≠ g; omega); have c_X0_13 := cell_gr (cell_b (c_X0_12) (below_alloc _ _)) hgr (fun g h => by simp only [Value.ownBlock, Option.some.injEq] at h; show gx ≠ g; omega); have c_X1_13 := cell_gr (cell_b (c_X1_12) (below_alloc _ _)) hgr (fun g h => by simp only [Value.ownBlock, Option.some.injEq] at h; show gx ≠ g; omega); have f_O0_13 := (frz_gr (p := ⟨w1.heap.size, 0, none⟩) (cell_lt (cell_b (c_O0_12) (below_alloc _ _))) hgr (fun g h => by simp only [Value.ownBlock, Option.some.injEq] at h; show w1.heap.size ≠ g; omega)).trans (frz_b (cell_lt (c_O0_12)) (f_O0_12) (below_alloc _ _)); have f_O1_13 := (frz_gr (p := ⟨w1.heap.size, 1, none⟩) (cell_lt (cell_b (c_O1_12) (below_alloc _ _))) hgr (fun g h => by simp only [Value.ownBlock, Option.some.injEq] at h; show w1.heap.size ≠ g; omega)).trans (frz_b (cell_lt (c_O1_12)) (f_O1_12) (below_alloc _ _)); have f_O2_13 := (frz_gr (p := ⟨w1.heap.size, 2, none⟩) (cell_lt (cell_b (c_O2_12) (below_alloc _ _))) hgr (fun g h => by simp only [Value.ownBlock, Option.some.injEq] at h; show w1.heap.size ≠ g; omega)).trans (frz_b (cell_lt (c_O2_12)) (f_O2_12) (below_alloc _ _)); have f_R0_13 := (frz_gr (p := ⟨w.heap.size + 1, 0, none⟩) (cell_lt (cell_b (c_R0_12) (below_alloc _ _))) hgr (fun g h => by simp only [Value.ownBlock, Option.some.injEq] at h; show w.heap.size + 1 ≠ g; omega)).trans (frz_b (cell_lt (c_R0_12)) (f_R0_12) (below_alloc _ _)); have f_R1_13 := (frz_gr (p := ⟨w.heap.size + 1, 1, none⟩) (cell_lt (cell_b (c_R1_12) (below_alloc _ _))) hgr (fun g h => by simp only [Value.ownBlock, Option.some.injEq] at h; show w.heap.size + 1 ≠ g; omega)).trans (frz_b (cell_lt (c_R1_12)) (f_R1_12) (below_alloc _ _)); have f_R2_13 := (frz_gr (p := ⟨w.heap.size + 1, 2, none⟩) (cell_lt (cell_b (c_R2_12) (below_alloc _ _))) hgr (fun g h => by simp only [Value.ownBlock, Option.some.injEq] at h; show w.heap.size + 1 ≠ g; omega)).trans (frz_b (cell_lt (c_R2_12)) (f_R2_12) (below_alloc _ _)); have o_k_13 := Lib.hid (own_gr (own_below (o_k_12.out) (below_alloc _ _)) hgr (fun g g' h h' => by simp only [Value.ownBlock, Option.some.injEq] at h; have h3 := lo_k.out g' h'; have h4 := hi_k.out g' h'; omega)); have r_t_13 := Lib.hid (rdxb_gr (rdxb_b (r_t_12.out) (below_alloc _ _)) hgr (fun g g' h h' => by simp only [Value.ownBlock, Option.some.injEq] at h; have h3 := lr_t.out g' h'; have h4 := hr_t.out g' h'; have h9 : g' = gx := (by simp only [Value.ownBlock, Option.some.injEq] at h'; omega); omega)); have T_13 := Lib.hid (below_gr (below_trans (T_12.out) (below_alloc _ _)) (by first | omega | (simp; done) | (simp; omega)) hgr (fun g h => by simp only [Value.ownBlock, Option.some.injEq] at h; omega)); have z_13 : w12.heap.size + 1 ≤ w13.heap.size := (by have := hgr.size; (try simp at this); omega); have o_n_13 := Lib.hid ho; have lo_n := Lib.hid (own_lo o_n_13.out); have hi_n := Lib.hid (own_hi o_n_13.out); have ac_O0_13 := fun o => cell_b (c_O0_13) (below_alloc _ o); have bc_O0_13 := fun o o1 => cell_b (ac_O0_13 o) (below_alloc _ o1); have ac_O1_13 := fun o => cell_b (c_O1_13) (below_alloc _ o); have bc_O1_13 := fun o o1 => cell_b (ac_O1_13 o) (below_alloc _ o1); have ac_O2_13 := fun o => cell_b (c_O2_13) (below_alloc _ o); have bc_O2_13 := fun o o1 => cell_b (ac_O2_13 o) (below_alloc _ o1); have ac_R0_13 := fun o => cell_b (c_R0_13) (below_alloc _ o); have bc_R0_13 := fun o o1 => cell_b (ac_R0_13 o) (below_alloc _ o1); have ac_R1_13 := fun o => cell_b (c_R1_13) (below_alloc _ o); have bc_R1_13 := fun o o1 => cell_b (ac_R1_13 o) (below_alloc _ o1); have ac_R2_13 := fun o => cell_b (c_R2_13) (below_alloc _ o); have bc_R2_13 := fun o o1 => cell_b (ac_R2_13 o) (below_alloc _ o1); have ac_X0_13 := fun o => cell_b (c_X0_13) (below_alloc _ o); have bc_X0_13 := fun o o1 => cell_b (ac_X0_13 o) (below_alloc _ o1); have ac_X1_13 := fun o => cell_b (c_X1_13) (below_alloc _ o); have bc_X1_13 := fun o o1 => cell_b (ac_X1_13 o) (below_alloc _ o1); have af_O0_13 := fun o => frz_b (cell_lt (c_O0_13)) (f_O0_13) (below_alloc _ o); have bf_O0_13 := fun o o1 => frz_b (cell_lt (ac_O0_13 o)) (af_O0_13 o) (below_alloc _ o1); have af_O1_13 := fun o => frz_b (cell_lt (c_O1_13)) (f_O1_13) (below_alloc _ o); have bf_O1_13 := fun o o1 => frz_b (cell_lt (ac_O1_13 o)) (af_O1_13 o) (below_alloc _ o1); have af_O2_13 := fun o => frz_b (cell_lt (c_O2_13)) (f_O2_13) (below_alloc _ o); have bf_O2_13 := fun o o1 => frz_b (cell_lt (ac_O2_13 o)) (af_O2_13 o) (below_alloc _ o1); have af_R0_13 := fun o => frz_b (cell_lt (c_R0_13)) (f_R0_13) (below_alloc _ o); have bf_R0_13 := fun o o1 => frz_b (cell_lt (ac_R0_13 o)) (af_R0_13 o) (below_alloc _ o1); have af_R1_13 := fun o => frz_b (cell_lt (c_R1_13)) (f_R1_13) (below_alloc _ o); have bf_R1_13 := fun o o1 => frz_b (cell_lt (ac_R1_13 o)) (af_R1_13 o) (below_alloc _ o1); have af_R2_13 := fun o => frz_b (cell_lt (c_R2_13)) (f_R2_13) (below_alloc _ o); have bf_R2_13 := fun o o1 => frz_b (cell_lt (ac_R2_13 o)) (af_R2_13 o) (below_alloc _ o1); clear hgr c_O0_12 c_O1_12 c_O2_12 c_R0_12 c_R1_12 c_R2_12 c_X0_12 c_X1_12 f_O0_12 f_O1_12 f_O2_12 f_R0_12 f_R1_12 f_R2_12 o_k_12 r_t_12 T_12 ac_O0_12 bc_O0_12 ac_O1_12 bc_O1_12 ac_O2_12 bc_O2_12 ac_R0_12 bc_R0_12 ac_R1_12 bc_R1_12 ac_R2_12 bc_R2_12 ac_X0_12 bc_X0_12 ac_X1_12 bc_X1_12 af_O0_12 bf_O0_12 af_O1_12 bf_O1_12 af_O2_12 bf_O2_12 af_R0_12 bf_R0_12 af_R1_12 bf_R1_12 af_R2_12 bf_R2_12 hown ho hloc))
          go_wp2_with fail
          have e9 : (Y ++ [x1]).length = Y.length + 1 := by simp
          have HK : Hid (Ow ((w13).setCell ⟨w1.heap.size, 2, none⟩ (.slice a6 (0) c6)) (w.heap.size + 1) (.slice a5 (Y ++ [x1]).length c5) (Y ++ [x1])) := Lib.hid (by rw [e9]; exact ow_eq (own_set (p := ⟨w1.heap.size, 2, none⟩) (o_k_13.out) (fun g h => by have h1 := lo_k.out g h; have h2 := hi_k.out g h; have h5 := iv_k.out g h; show g ≠ w1.heap.size; omega) _) rfl e9.symm)
          go_roundw
          case rel => exact ⟨wrap64 (p1 - x2), Y ++ [x1], ([] : List (Int × Int)), a5, c5, a6, c6, by rw [e9], by rw [e9]; first | omega | (simp; omega), HK.out, cell_set (p := ⟨w1.heap.size, 2, none⟩) (c_O0_13) (ne_off (by decide)), cell_set (p := ⟨w1.heap.size, 2, none⟩) (c_O1_13) (ne_off (by decide)), World.cell?_setCell_same _ _ _ (c_O2_13), (World.frozen?_setCell _ _ _ _).trans (f_O0_13), (World.frozen?_setCell _ _ _ _).trans (f_O1_13), (World.frozen?_setCell _ _ _ _).trans (f_O2_13), cell_set (p := ⟨w1.heap.size, 2, none⟩) (c_R0_13) (ne_blk (by omega)), cell_set (p := ⟨w1.heap.size, 2, none⟩) (c_R1_13) (ne_blk (by omega)), cell_set (p := ⟨w1.heap.size, 2, none⟩) (c_R2_13) (ne_blk (by omega)), (World.frozen?_setCell _ _ _ _).trans (f_R0_13), (World.frozen?_setCell _ _ _ _).trans (f_R1_13), (World.frozen?_setCell _ _ _ _).trans (f_R2_13), rdxb_mono (own_rdxb (own_set (p := ⟨w1.heap.size, 2, none⟩) (o_n_13.out) (fun g h => by have h1 := lo_n.out g h; have h2 := hi_n.out g h; have h5 := iv_n.out g h; show g ≠ w1.heap.size; omega) _)) (by omega), fun g h => by have h1 := lo_n.out g h; omega, fun g h => ⟨by rw [e9] at h; have h1 := lo_k.out g h; have h5 := iv_k.out g h; omega, fun g2 h2 => by rw [e9] at h; have h3 := hi_k.out g h; have h4 := lo_n.out g2 h2; omega⟩, ((T_13.out).setCell (p := ⟨w1.heap.size, 2, none⟩) (by show w.heap.size ≤ w1.heap.size; omega) _), Nat.lt_of_lt_of_le (show w1.heap.size < w13.heap.size by omega) (by simp)⟩
          case measure => simp [lenV]; omega
        · have hc2 : 1 < cap2 := by omega
          have r_t_10 := Lib.hid (HTL.out (ox + 2) (.inl rfl))
          clear HTL hc1
          have lr_t := Lib.hid (rdxb_lo r_t_10.out)
          have hr_t := Lib.hid (rdxb_hi r_t_10.out)
          clear ac_O0_10 bc_O0_10 ac_O1_10 bc_O1_10 ac_O2_10 bc_O2_10 ac_R0_10 bc_R0_10 ac_R1_10 bc_R1_10 ac_R2_10 bc_R2_10 ac_X0_10 bc_X0_10 ac_X1_10 bc_X1_10 af_O0_10 bf_O0_10 af_O1_10 bf_O1_10 af_O2_10 bf_O2_10 af_R0_10 bf_R0_10 af_R1_10 bf_R1_10 af_R2_10 bf_R2_10
          have ac_O0_10 := fun o => cell_b (c_O0_10) (below_alloc _ o)
          have bc_O0_10 := fun o o1 => cell_b (ac_O0_10 o) (below_alloc _ o1)
          have ac_O1_10 := fun o => cell_b (c_O1_10) (below_alloc _ o)
          have bc_O1_10 := fun o o1 => cell_b (ac_O1_10 o) (below_alloc _ o1)
          have ac_O2_10 := fun o => cell_b (c_O2_10) (below_alloc _ o)
          have bc_O2_10 := fun o o1 => cell_b (ac_O2_10 o) (below_alloc _ o1)
          have ac_R0_10 := fun o => cell_b (c_R0_10) (below_alloc _ o)
          have bc_R0_10 := fun o o1 => cell_b (ac_R0_10 o) (below_alloc _ o1)
          have ac_R1_10 := fun o => cell_b (c_R1_10) (below_alloc _ o)
          have bc_R1_10 := fun o o1 => cell_b (ac_R1_10 o) (below_alloc _ o1)
          have ac_R2_10 := fun o => cell_b (c_R2_10) (below_alloc _ o)
          have bc_R2_10 := fun o o1 => cell_b (ac_R2_10 o) (below_alloc _ o1)
          have ac_X0_10 := fun o => cell_b (c_X0_10) (below_alloc _ o)
          have bc_X0_10 := fun o o1 => cell_b (ac_X0_10 o) (below_alloc _ o1)
          have ac_X1_10 := fun o => cell_b (c_X1_10) (below_alloc _ o)
          have bc_X1_10 := fun o o1 => cell_b (ac_X1_10 o) (below_alloc _ o1)
          have af_O0_10 := fun o => frz_b (cell_lt (c_O0_10)) (f_O0_10) (below_alloc _ o)
          have bf_O0_10 := fun o o1 => frz_b (cell_lt (ac_O0_10 o)) (af_O0_10 o) (below_alloc _ o1)
          have af_O1_10 := fun o => frz_b (cell_lt (c_O1_10)) (f_O1_10) (below_alloc _ o)
          have bf_O1_10 := fun o o1 => frz_b (cell_lt (ac_O1_10 o)) (af_O1_10 o) (below_alloc _ o1)
          have af_O2_10 := fun o => frz_b (cell_lt (c_O2_10)) (f_O2_10) (below_alloc _ o)
          have bf_O2_10 := fun o o1 => frz_b (cell_lt (ac_O2_10 o)) (af_O2_10 o) (below_alloc _ o1)
          have af_R0_10 := fun o => frz_b (cell_lt (c_R0_10)) (f_R0_10) (below_alloc _ o)
          have bf_R0_10 := fun o o1 => frz_b (cell_lt (ac_R0_10 o)) (af_R0_10 o) (below_alloc _ o1)
          have af_R1_10 := fun o => frz_b (cell_lt (c_R1_10)) (f_R1_10) (below_alloc _ o)
          have bf_R1_10 := fun o o1 => frz_b (cell_lt (ac_R1_10 o)) (af_R1_10 o) (below_alloc _ o1)
          have af_R2_10 := fun o => frz_b (cell_lt (c_R2_10)) (f_R2_10) (below_alloc _ o)
          have bf_R2_10 := fun o o1 => frz_b (cell_lt (ac_R2_10 o)) (af_R2_10 o) (below_alloc _ o1)
          go_wp2_with fail
          go_quiet (fail)
          go_wp2_with fail
          go_region
          have c_O0_11 : (((w10).drewN (nq + 1)).setCell ⟨w1.heap.size, 0, none⟩ (.int .i64 (wrap64 (p1 - x2)))).cell? ⟨w1.heap.size, 0, none⟩ = some (.int .i64 (wrap64 (p1 - x2))) := World.cell?_setCell_same _ _ _ (cell_b (c_O0_10) (drewN_below _ _))
          have c_O1_11 : (((w10).drewN (nq + 1)).setCell ⟨w1.heap.size, 0, none⟩ (.int .i64 (wrap64 (p1 - x2)))).cell? ⟨w1.heap.size, 1, none⟩ = some (.int .i64 q) := cell_set (p := ⟨w1.heap.size, 0, none⟩) (cell_b (c_O1_10) (drewN_below _ _)) (ne_off (by decide))
          have c_O2_11 : (((w10).drewN (nq + 1)).setCell ⟨w1.heap.size, 0, none⟩ (.int .i64 (wrap64 (p1 - x2)))).cell? ⟨w1.heap.size, 2, none⟩ = some (.slice (some ⟨gx, ox, none⟩) (Z.length + 1) cap2) := cell_set (p := ⟨w1.heap.size, 0, none⟩) (cell_b (c_O2_10) (drewN_below _ _)) (ne_off (by decide))
          have c_R0_11 : (((w10).drewN (nq + 1)).setCell ⟨w1.heap.size, 0, none⟩ (.int .i64 (wrap64 (p1 - x2)))).cell? ⟨w.heap.size + 1, 0, none⟩ = some (.int .i64 0) := cell_set (p := ⟨w1.heap.size, 0, none⟩) (cell_b (c_R0_10) (drewN_below _ _)) (ne_blk (by omega))
          have c_R1_11 : (((w10).drewN (nq + 1)).setCell ⟨w1.heap.size, 0, none⟩ (.int .i64 (wrap64 (p1 - x2)))).cell? ⟨w.heap.size + 1, 1, none⟩ = some (.int .i64 0) := cell_set (p := ⟨w1.heap.size, 0, none⟩) (cell_b (c_R1_10) (drewN_below _ _)) (ne_blk (by omega))
          have c_R2_11 : (((w10).drewN (nq + 1)).setCell ⟨w1.heap.size, 0, none⟩ (.int .i64 (wrap64 (p1 - x2)))).cell? ⟨w.heap.size + 1, 2, none⟩ = some (.slice none 0 0) := cell_set (p := ⟨w1.heap.size, 0, none⟩) (cell_b (c_R2_10) (drewN_below _ _)) (ne_blk (by omega))
          have c_X0_11 : (((w10).drewN (nq + 1)).setCell ⟨w1.heap.size, 0, none⟩ (.int .i64 (wrap64 (p1 - x2)))).cell? ⟨gx, ox, none⟩ = some (.int .i64 x1) := cell_set (p := ⟨w1.heap.size, 0, none⟩) (cell_b (c_X0_10) (drewN_below _ _)) (ne_blk (by omega))
          have c_X1_11 : (((w10).drewN (nq + 1)).setCell ⟨w1.heap.size, 0, none⟩ (.int .i64 (wrap64 (p1 - x2)))).cell? ⟨gx, ox + 1, none⟩ = some (.int .i64 x2) := cell_set (p := ⟨w1.heap.size, 0, none⟩) (cell_b (c_X1_10) (drewN_below _ _)) (ne_blk (by omega))
          have f_O0_11 : (((w10).drewN (nq + 1)).setCell ⟨w1.heap.size, 0, none⟩ (.int .i64 (wrap64 (p1 - x2)))).frozen? ⟨w1.heap.size, 0, none⟩ = false := (World.frozen?_setCell _ _ _ _).trans (frz_b (cell_lt (c_O0_10)) (f_O0_10) (drewN_below _ _))
          have f_O1_11 : (((w10).drewN (nq + 1)).setCell ⟨w1.heap.size, 0, none⟩ (.int .i64 (wrap64 (p1 - x2)))).frozen? ⟨w1.heap.size, 1, none⟩ = false := (World.frozen?_setCell _ _ _ _).trans (frz_b (cell_lt (c_O1_10)) (f_O1_10) (drewN_below _ _))
          have f_O2_11 : (((w10).drewN (nq + 1)).setCell ⟨w1.heap.size, 0, none⟩ (.int .i64 (wrap64 (p1 - x2)))).frozen? ⟨w1.heap.size, 2, none⟩ = false := (World.frozen?_setCell _ _ _ _).trans (frz_b (cell_lt (c_O2_10)) (f_O2_10) (drewN_below _ _))
          have f_R0_11 : (((w10).drewN (nq + 1)).setCell ⟨w1.heap.size, 0, none⟩ (.int .i64 (wrap64 (p1 - x2)))).frozen? ⟨w.heap.size + 1, 0, none⟩ = false := (World.frozen?_setCell _ _ _ _).trans (frz_b (cell_lt (c_R0_10)) (f_R0_10) (drewN_below _ _))
          have f_R1_11 : (((w10).drewN (nq + 1)).setCell ⟨w1.heap.size, 0, none⟩ (.int .i64 (wrap64 (p1 - x2)))).frozen? ⟨w.heap.size + 1, 1, none⟩ = false := (World.frozen?_setCell _ _ _ _).trans (frz_b (cell_lt (c_R1_10)) (f_R1_10) (drewN_below _ _))
          have f_R2_11 : (((w10).drewN (nq + 1)).setCell ⟨w1.heap.size, 0, none⟩ (.int .i64 (wrap64 (p1 - x2)))).frozen? ⟨w.heap.size + 1, 2, none⟩ = false := (World.frozen?_setCell _ _ _ _).trans (frz_b (cell_lt (c_R2_10)) (f_R2_10) (drewN_below _ _))
          have o_g_11 : Hid ((((w10).drewN (nq + 1)).setCell ⟨w1.heap.size, 0, none⟩ (.int .i64 (wrap64 (p1 - x2)))).ownsRow ((w.heap.size + 1)) 3 1 (.slice ag Y.length cg) ((Y).length) (ints (Y))) := Lib.hid ((own_set (p := ⟨w1.heap.size, 0, none⟩) (own_below (o_g_10.out) (drewN_below _ _)) (fun g h => by have h1 := lo_g.out g h; have h2 := hi_g.out g h; have h9 := (HNG.out g h).1; have h8 := HGG.out g h; show g ≠ w1.heap.size; omega) _))
          have r_t_11 : Hid (RdWB (((w10).drewN (nq + 1)).setCell ⟨w1.heap.size, 0, none⟩ (.int .i64 (wrap64 (p1 - x2)))) (w.heap.size + 2) (.slice (some ⟨gx, ox + 2, none⟩) Z.length (cap2 - 1)) (Z)) := Lib.hid ((rdxb_set (p := ⟨w1.heap.size, 0, none⟩) (rdxb_b (r_t_10.out) (drewN_below _ _)) (fun g h => by have h1 := lr_t.out g h; have h2 := hr_t.out g h; have h9 : g = gx := (by simp only [Value.ownBlock, Option.some.injEq] at h; omega); show g ≠ w1.heap.size; omega) _))
          have T_11 : Hid (Below w.heap.size w (((w10).drewN (nq + 1)).setCell ⟨w1.heap.size, 0, none⟩ (.int .i64 (wrap64 (p1 - x2))))) := Lib.hid ((below_trans (T_10.out) (drewN_below _ _)).setCell (p := ⟨w1.heap.size, 0, none⟩) (by show w.heap.size ≤ w1.heap.size; omega) _)
          have z_11 : w10.heap.size ≤ (((w10).drewN (nq + 1)).setCell ⟨w1.heap.size, 0, none⟩ (.int .i64 (wrap64 (p1 - x2)))).heap.size := (by simp)
          clear c_O0_10 c_O1_10 c_O2_10 c_R0_10 c_R1_10 c_R2_10 c_X0_10 c_X1_10 f_O0_10 f_O1_10 f_O2_10 f_R0_10 f_R1_10 f_R2_10 o_g_10 r_t_10 T_10 ac_O0_10 bc_O0_10 ac_O1_10 bc_O1_10 ac_O2_10 bc_O2_10 ac_R0_10 bc_R0_10 ac_R1_10 bc_R1_10 ac_R2_10 bc_R2_10 ac_X0_10 bc_X0_10 ac_X1_10 bc_X1_10 af_O0_10 bf_O0_10 af_O1_10 bf_O1_10 af_O2_10 bf_O2_10 af_R0_10 bf_R0_10 af_R1_10 bf_R1_10 af_R2_10 bf_R2_10
          generalize ((w10).drewN (nq + 1)).setCell ⟨w1.heap.size, 0, none⟩ (.int .i64 (wrap64 (p1 - x2))) = w11 at *
          have ac_O0_11 := fun o => cell_b (c_O0_11) (below_alloc _ o)
          have bc_O0_11 := fun o o1 => cell_b (ac_O0_11 o) (below_alloc _ o1)
          have ac_O1_11 := fun o => cell_b (c_O1_11) (below_alloc _ o)
          have bc_O1_11 := fun o o1 => cell_b (ac_O1_11 o) (below_alloc _ o1)
          have ac_O2_11 := fun o => cell_b (c_O2_11) (below_alloc _ o)
          have bc_O2_11 := fun o o1 => cell_b (ac_O2_11 o) (below_alloc _ o1)
          have ac_R0_11 := fun o => cell_b (c_R0_11) (below_alloc _ o)
          have bc_R0_11 := fun o o1 => cell_b (ac_R0_11 o) (below_alloc _ o1)
          have ac_R1_11 := fun o => cell_b (c_R1_11) (below_alloc _ o)
          have bc_R1_11 := fun o o1 => cell_b (ac_R1_11 o) (below_alloc _ o1)
          have ac_R2_11 := fun o => cell_b (c_R2_11) (below_alloc _ o)
          have bc_R2_11 := fun o o1 => cell_b (ac_R2_11 o) (below_alloc _ o1)
          have ac_X0_11 := fun o => cell_b (c_X0_11) (below_alloc _ o)
          have bc_X0_11 := fun o o1 => cell_b (ac_X0_11 o) (below_alloc _ o1)
          have ac_X1_11 := fun o => cell_b (c_X1_11) (below_alloc _ o)
          have bc_X1_11 := fun o o1 => cell_b (ac_X1_11 o) (below_alloc _ o1)
          have af_O0_11 := fun o => frz_b (cell_lt (c_O0_11)) (f_O0_11) (below_alloc _ o)
          have bf_O0_11 := fun o o1 => frz_b (cell_lt (ac_O0_11 o)) (af_O0_11 o) (below_alloc _ o1)
          have af_O1_11 := fun o => frz_b (cell_lt (c_O1_11)) (f_O1_11) (below_alloc _ o)
          have bf_O1_11 := fun o o1 => frz_b (cell_lt (ac_O1_11 o)) (af_O1_11 o) (below_alloc _ o1)
          have af_O2_11 := fun o => frz_b (cell_lt (c_O2_11)) (f_O2_11) (below_alloc _ o)
          have bf_O2_11 := fun o o1 => frz_b (cell_lt (ac_O2_11 o)) (af_O2_11 o) (below_alloc _ o1)
          have af_R0_11 := fun o => frz_b (cell_lt (c_R0_11)) (f_R0_11) (below_alloc _ o)
          have bf_R0_11 := fun o o1 => frz_b (cell_lt (ac_R0_11 o)) (af_R0_11 o) (below_alloc _ o1)
          have af_R1_11 := fun o => frz_b (cell_lt (c_R1_11)) (f_R1_11) (below_alloc _ o)
          have bf_R1_11 := fun o o1 => frz_b (cell_lt (ac_R1_11 o)) (af_R1_11 o) (below_alloc _ o1)
          have af_R2_11 := fun o => frz_b (cell_lt (c_R2_11)) (f_R2_11) (below_alloc _ o)
          have bf_R2_11 := fun o o1 => frz_b (cell_lt (ac_R2_11 o)) (af_R2_11 o) (below_alloc _ o1)
          have tok13 : True := trivial
          have tok12 : True := trivial
          go_wp2_with (first | (at_builtin; have _t := tok12; refine wpList_append_own_at _ rfl _ _ 60 rfl ((w.heap.size + 1)) 3 i0 (.int .i64 0) 1 8 Tryd.underlying60 hi hz0 hz1 hz2 rfl (by decide) (.slice ag Y.length cg) ((Y).length) (ints (Y)) rfl (own_below (o_g_11.out) (below_alloc _ _)) ⟨w11.heap.size, 0, none⟩ 1 1 [.int .i64 (x1)] rfl rfl (cell_one_new _ _ _) (ints_oneCell .i64 [x1]) (by unfold maxLen; omega) (by omega) (by first | omega | (simp; done) | (simp; omega)) ?_; intro v12 w12 hown hgr _ hloc; clear tok12; have ho : w12.ownsRow ((w.heap.size + 1)) 3 1 v12 ((Y).length + 1) (ints (Y ++ [x1])) := (by rw [ints_append]; exact hown); obtain ⟨a5, c5, hv⟩ := own_shape ho; subst hv; have iv_k : Hid (∀ g, (Value.slice a5 ((Y).length + 1) c5).ownBlock = some g → (w1.heap.size + 1 ≤ g ∧ g < w10.heap.size) ∨ (w11.heap.size + 1 ≤ g ∧ g < w12.heap.size)) := Lib.hid (fun g h => by have h9 := hgr.size; have h7 := own_hi ho g h; rcases hloc with h8 | h8 <;> rw [h8] at h <;> first | (have h1 := lo_g.out g h; have h2 := hi_g.out g h; have h9 := (HNG.out g h).1; have h8 := HGG.out g h; (try simp at h9); omega) | (injection h with h; (try simp at h9); (try simp at h); omega)); have c_O0_12 := cell_gr (cell_b (c_O0_11) (below_alloc _ _)) hgr (fun g h => by have h1 := lo_g.out g h; have h2 := hi_g.out g h; have h9 := (HNG.out g h).1; have h8 := HGG.out g h; show w1.heap.size ≠ g; omega); have c_O1_12 := cell_gr (cell_b (c_O1_11) (below_alloc _ _)) hgr (fun g h => by have h1 := lo_g.out g h; have h2 := hi_g.out g h; have h9 := (HNG.out g h).1; have h8 := HGG.out g h; show w1.heap.size ≠ g; omega); have c_O2_12 := cell_gr (cell_b (c_O2_11) (below_alloc _ _)) hgr (fun g h => by have h1 := lo_g.out g h; have h2 := hi_g.out g h; have h9 := (HNG.out g h).1; have h8 := HGG.out g h; show w1.heap.size ≠ g; omega); have c_R0_12 := cell_gr (cell_b (c_R0_11) (below_alloc _ _)) hgr (fun g h => by have h1 := lo_g.out g h; have h2 := hi_g.out g h; have h9 := (HNG.out g h).1; have h8 := HGG.out g h; show w.heap.size + 1 ≠ g; omega); have c_R1_12 := cell_gr (cell_b (c_R1_11) (below_alloc _ _)) hgr (fun g h => by have h1 := lo_g.out g h; have h2 := hi_g.out g h; have h9 := (HNG.out g h).1; have h8 := HGG.out g h; show w.heap.size + 1 ≠ g; omega); have c_R2_12 := cell_gr (cell_b (c_R2_11) (below_alloc _ _)) hgr (fun g h => by have h1 := lo_g.out g h; have h2 := hi_g.out g h; have h9 := (HNG.out g h).1; have h8 := HGG.out g h; show w.heap.size + 1 ≠ g; omega); have c_X0_12 := cell_gr (cell_b (c_X0_11) (below_alloc _ _)) hgr (fun g h => by have h1 := lo_g.out g h; have h2 := hi_g.out g h; have h9 := (HNG.out g h).1; have h8 := HGG.out g h; show gx ≠ g; omega); have c_X1_12 := cell_gr (cell_b (c_X1_11) (below_alloc _ _)) hgr (fun g h => by have h1 := lo_g.out g h; have h2 := hi_g.out g h; have h9 := (HNG.out g h).1; have h8 := HGG.out g h; show gx ≠ g; omega); have f_O0_12 := (frz_gr (p := ⟨w1.heap.size, 0, none⟩) (cell_lt (cell_b (c_O0_11) (below_alloc _ _))) hgr (fun g h => by have h1 := lo_g.out g h; have h2 := hi_g.out g h; have h9 := (HNG.out g h).1; have h8 := HGG.out g h; show w1.heap.size ≠ g; omega)).trans (frz_b (cell_lt (c_O0_11)) (f_O0_11) (below_alloc _ _)); have f_O1_12 := (frz_gr (p := ⟨w1.heap.size, 1, none⟩) (cell_lt (cell_b (c_O1_11) (below_alloc _ _))) hgr (fun g h => by have h1 := lo_g.out g h; have h2 := hi_g.out g h; have h9 := (HNG.out g h).1; have h8 := HGG.out g h; show w1.heap.size ≠ g; omega)).trans (frz_b (cell_lt (c_O1_11)) (f_O1_11) (below_alloc _ _)); have f_O2_12 := (frz_gr (p := ⟨w1.heap.size, 2, none⟩) (cell_lt (cell_b (c_O2_11) (below_alloc _ _))) hgr (fun g h => by have h1 := lo_g.out g h; have h2 := hi_g.out g h; have h9 := (HNG.out g h).1; have h8 := HGG.out g h; show w1.heap.size ≠ g; omega)).trans (frz_b (cell_lt (c_O2_11)) (f_O2_11) (below_alloc _ _)); have f_R0_12 := (frz_gr (p := ⟨w.heap.size + 1, 0, none⟩) (cell_lt (cell_b (c_R0_11) (below_alloc _ _))) hgr (fun g h => by have h1 := lo_g.out g h; have h2 := hi_g.out g h; have h9 := (HNG.out g h).1; have h8 := HGG.out g h; show w.heap.size + 1 ≠ g; omega)).trans (frz_b (cell_lt (c_R0_11)) (f_R0_11) (below_alloc _ _)); have f_R1_12 := (frz_gr (p := ⟨w.heap.size + 1, 1, none⟩) (cell_lt (cell_b (c_R1_11) (below_alloc _ _))) hgr (fun g h => by have h1 := lo_g.out g h; have h2 := hi_g.out g h; have h9 := (HNG.out g h).1; have h8 := HGG.out g h; show w.heap.size + 1 ≠ g; omega)).trans (frz_b (cell_lt (c_R1_11)) (f_R1_11) (below_alloc _ _)); have f_R2_12 := (frz_gr (p := ⟨w.heap.size + 1, 2, none⟩) (cell_lt (cell_b (c_R2_11) (below_alloc _ _))) hgr (fun g h => by have h1 := lo_g.out g h; have h2 := hi_g.out g h; have h9 := (HNG.out g h).1; have h8 := HGG.out g h; show w.heap.size + 1 ≠ g; omega)).trans (frz_b (cell_lt (c_R2_11)) (f_R2_11) (below_alloc _ _)); have r_t_12 := Lib.hid (rdxb_gr (rdxb_b (r_t_11.out) (below_alloc _ _)) hgr (fun g g' h h' => by have h1 := lo_g.out g h; have h2 := hi_g.out g h; have h9 := (HNG.out g h).1; have h8 := HGG.out g h; have h3 := lr_t.out g' h'; have h4 := hr_t.out g' h'; have h9 : g' = gx := (by simp only [Value.ownBlock, Option.some.injEq] at h'; omega); omega)); have T_12 := Lib.hid (below_gr (below_trans (T_11.out) (below_alloc _ _)) (by first | omega | (simp; done) | (simp; omega)) hgr (fun g h => by have h1 := lo_g.out g h; have h2 := hi_g.out g h; have h9 := (HNG.out g h).1; have h8 := HGG.out g h; omega)); have z_12 : w11.heap.size + 1 ≤ w12.heap.size := (by have := hgr.size; (try simp at this); omega); have o_k_12 := Lib.hid ho; have lo_k := Lib.hid (own_lo o_k_12.out); have hi_k := Lib.hid (own_hi o_k_12.out); have ac_O0_12 := fun o => cell_b (c_O0_12) (below_alloc _ o); have bc_O0_12 := fun o o1 => cell_b (ac_O0_12 o) (below_alloc _ o1); have ac_O1_12 := fun o => cell_b (c_O1_12) (below_alloc _ o); have bc_O1_12 := fun o o1 => cell_b (ac_O1_12 o) (below_alloc _ o1); have ac_O2_12 := fun o => cell_b (c_O2_12) (below_alloc _ o); have bc_O2_12 := fun o o1 => cell_b (ac_O2_12 o) (below_alloc _ o1); have ac_R0_12 := fun o => cell_b (c_R0_12) (below_alloc _ o); have bc_R0_12 := fun o o1 => cell_b (ac_R0_12 o) (below_alloc _ o1); have ac_R1_12 := fun o => cell_b (c_R1_12) (below_alloc _ o); have bc_R1_12 := fun o o1 => cell_b (ac_R1_12 o) (below_alloc _ o1); have ac_R2_12 := fun o => cell_b (c_R2_12) (below_alloc _ o); have bc_R2_12 := fun o o1 => cell_b (ac_R2_12 o) (below_alloc _ o1); have ac_X0_12 := fun o => cell_b (c_X0_12) (below_alloc _ o); have bc_X0_12 := fun o o1 => cell_b (ac_X0_12 o) (below_alloc _ o1); have ac_X1_12 := fun o => cell_b (c_X1_12) (below_alloc _ o); have bc_X1_12 := fun o o1 => cell_b (ac_X1_12 o) (below_alloc _ o1); have af_O0_12 := fun o => frz_b (cell_lt (c_O0_12)) (f_O0_12) (below_alloc _ o); have bf_O0_12 := fun o o1 => frz_b (cell_lt (ac_O0_12 o)) (af_O0_12 o) (below_alloc _ o1); have af_O1_12 := fun o => frz_b (cell_lt (c_O1_12)) (f_O1_12) (below_alloc _ o); have bf_O1_12 := fun o o1 => frz_b (cell_lt (ac_O1_12 o)) (af_O1_12 o) (below_alloc _ o1); have af_O2_12 := fun o => frz_b (cell_lt (c_O2_12)) (f_O2_12) (below_alloc _ o); have bf_O2_12 := fun o o1 => frz_b (cell_lt (ac_O2_12 o)) (af_O2_12 o) (below_alloc _ o1); have af_R0_12 := fun o => frz_b (cell_lt (c_R0_12)) (f_R0_12) (below_alloc _ o); have bf_R0_12 := fun o o1 => frz_b (cell_lt (ac_R0_12 o)) (af_R0_12 o) (below_alloc _ o1); have af_R1_12 := fun o => frz_b (cell_lt (c_R1_12)) (f_R1_12) (below_alloc _ o); have bf_R1_12 := fun o o1 => frz_b (cell_lt (ac_R1_12 o)) (af_R1_12 o) (below_alloc _ o1); have af_R2_12 := fun o => frz_b (cell_lt (c_R2_12)) (f_R2_12) (below_alloc _ o); have bf_R2_12 := fun o o1 => frz_b (cell_lt (ac_R2_12 o)) (af_R2_12 o) (below_alloc _ o1); clear hgr c_O0_11 c_O1_11 c_O2_11 c_R0_11 c_R1_11 c_R2_11 c_X0_11 c_X1_11 f_O0_11 f_O1_11 f_O2_11 f_R0_11 f_R1_11 f_R2_11 r_t_11 T_11 ac_O0_11 bc_O0_11 ac_O1_11 bc_O1_11 ac_O2_11 bc_O2_11 ac_R0_11 bc_R0_11 ac_R1_11 bc_R1_11 ac_R2_11 bc_R2_11 ac_X0_11 bc_X0_11 ac_X1_11 bc_X1_11 af_O0_11 bf_O0_11 af_O1_11 bf_O1_11 af_O2_11 bf_O2_11 af_R0_11 bf_R0_11 af_R1_11 bf_R1_11 af_R2_11 bf_R2_11 hown ho hloc o_g_11 lo_g hi_g) | (at_builtin; have _t := tok13; refine wpList_append_rdx (by rfl) _ _ 27 rfl (w12.heap.size) 42 2 16 (.agg #[.int .i64 0, .int .i64 0]) j0 Tryd.underlying27 hj hy0 hy1 hy2 rfl (by decide) (.slice (some ⟨w12.heap.size, 0, none⟩) 0 0) (0) ([]) rfl (owp_made_at (w12) (w12.heap.size) (w12.heap.size) (by first | rfl | simp) (Nat.le_refl _)) _ _ _ (prs (Z)) rfl (rdxb_x (rdxb_b (r_t_12.out) (below_alloc _ _))) prs_one (by first | (unfold maxLen; omega) | (unfold maxLen; simp; omega)) (by first | omega | (simp; omega)) (by first | omega | (simp; done) | (simp; omega)) ?_; intro v13 w13 hown hgr hloc; clear tok13; have ho : w13.ownsRow (w12.heap.size) 42 2 v13 (Z.length) (prs (Z)) := (by rw [Nat.zero_add, List.nil_append] at hown; exact hown); obtain ⟨a6, c6, hv⟩ := own_shape ho; subst hv; have iv_n : Hid (∀ g, (Value.slice a6 (Z.length) c6).ownBlock = some g → (w12.heap.size ≤ g ∧ g < w12.heap.size + 1) ∨ (w12.heap.size + 1 ≤ g ∧ g < w13.heap.size)) := Lib.hid (fun g h => by have h9 := hgr.size; have h7 := own_hi ho g h; rcases hloc with h8 | h8 <;> rw [h8] at h <;> (simp only [Value.ownBlock, Option.some.injEq] at h; (try simp at h9); (try simp at h); omega)); have c_O0_13 := cell_gr (cell_b (c_O0_12) (below_alloc _ _)) hgr (fun g h => by simp only [Value.ownBlock, Option.some.injEq] at h; show w1.heap.size ≠ g; omega); have c_O1_13 := cell_gr (cell_b (c_O1_12) (below_alloc _ _)) hgr (fun g h => by simp only [Value.ownBlock, Option.some.injEq] at h; show w1.heap.size ≠ g; omega); have c_O2_13 := cell_gr (cell_b (c_O2_12) (below_alloc _ _)) hgr (fun g h => by simp only [Value.ownBlock, Option.some.injEq] at h; show w1.heap.size ≠ g; omega); have c_R0_13 := cell_gr (cell_b (c_R0_12) (below_alloc _ _)) hgr (fun g h => by simp only [Value.ownBlock, Option.some.injEq] at h; show w.heap.size + 1 ≠ g; omega); have c_R1_13 := cell_gr (cell_b (c_R1_12) (below_alloc _ _)) hgr (fun g h => by simp only [Value.ownBlock, Option.some.injEq] at h; show w.heap.size + 1 ≠ g; omega); have c_R2_13 := cell_gr (cell_b (c_R2_12) (below_alloc _ _)) hgr (fun g h => by simp only [Value.ownBlock, Option.some.injEq] at h; show w.heap.size + 1 ≠ g; omega); have c_X0_13 := cell_gr (cell_b (c_X0_12) (below_alloc _ _)) hgr (fun g h => by simp only [Value.ownBlock, Option.some.injEq] at h; show gx ≠ g; omega); have c_X1_13 := cell_gr (cell_b (c_X1_12) (below_alloc _ _)) hgr (fun g h => by simp only [Value.ownBlock, Option.some.injEq] at h; show gx ≠ g; omega); have f_O0_13 := (frz_gr (p := ⟨w1.heap.size, 0, none⟩) (cell_lt (cell_b (c_O0_12) (below_alloc _ _))) hgr (fun g h => by simp only [Value.ownBlock, Option.some.injEq] at h; show w1.heap.size ≠ g; omega)).trans (frz_b (cell_lt (c_O0_12)) (f_O0_12) (below_alloc _ _)); have f_O1_13 := (frz_gr (p := ⟨w1.heap.size, 1, none⟩) (cell_lt (cell_b (c_O1_12) (below_alloc _ _))) hgr (fun g h => by simp only [Value.ownBlock, Option.some.injEq] at h; show w1.heap.size ≠ g; omega)).trans (frz_b (cell_lt (c_O1_12)) (f_O1_12) (below_alloc _ _)); have f_O2_13 := (frz_gr (p := ⟨w1.heap.size, 2, none⟩) (cell_lt (cell_b (c_O2_12) (below_alloc _ _))) hgr (fun g h => by simp only [Value.ownBlock, Option.some.injEq] at h; show w1.heap.size ≠ g; omega)).trans (frz_b (cell_lt (c_O2_12)) (f_O2_12) (below_alloc _ _)); have f_R0_13 := (frz_gr (p := ⟨w.heap.size + 1, 0, none⟩) (cell_lt (cell_b (c_R0_12) (below_alloc _ _))) hgr (fun g h => by simp only [Value.ownBlock, Option.some.injEq] at h; show w.heap.size + 1 ≠ g; omega)).trans (frz_b (cell_lt (c_R0_12)) (f_R0_12) (below_alloc _ _)); have f_R1_13 := (frz_gr (p := ⟨w.heap.size + 1, 1, none⟩) (cell_lt (cell_b (c_R1_12) (below_alloc _ _))) hgr (fun g h => by simp only [Value.ownBlock, Option.some.injEq] at h; show w.heap.size + 1 ≠ g; omega)).trans (frz_b (cell_lt (c_R1_12)) (f_R1_12) (below_alloc _ _)); have f_R2_13 := (frz_gr (p := ⟨w.heap.size + 1, 2, none⟩) (cell_lt (cell_b (c_R2_12) (below_alloc _ _))) hgr (fun g h => by simp only [Value.ownBlock, Option.some.injEq] at h; show w.heap.size + 1 ≠ g; omega)).trans (frz_b (cell_lt (c_R2_12)) (f_R2_12) (below_alloc _ _)); have o_k_13 := Lib.hid (own_gr (own_below (o_k_12.out) (below_alloc _ _)) hgr (fun g g' h h' => by simp only [Value.ownBlock, Option.some.injEq] at h; have h3 := lo_k.out g' h'; have h4 := hi_k.out g' h'; omega)); have r_t_13 := Lib.hid (rdxb_gr (rdxb_b (r_t_12.out) (below_alloc _ _)) hgr (fun g g' h h' => by simp only [Value.ownBlock, Option.some.injEq] at h; have h3 := lr_t.out g' h'; have h4 := hr_t.out g' h'; have h9 : g' = gx := (by simp only [Value.ownBlock, Option.some.injEq] at h'; omega); omega)); have T_13 := Lib.hid (below_gr (below_trans (T_12.out) (below_alloc _ _)) (by first | omega | (simp; done) | (simp; omega)) hgr (fun g h => by simp only [Value.ownBlock, Option.some.injEq] at h; omega)); have z_13 : w12.heap.size + 1 ≤ w13.heap.size := (by have := hgr.size; (try simp at this); omega); have o_n_13 := Lib.hid ho; have lo_n := Lib.hid (own_lo o_n_13.out); have hi_n := Lib.hid (own_hi o_n_13.out); have ac_O0_13 := fun o => cell_b (c_O0_13) (below_alloc _ o); have bc_O0_13 := fun o o1 => cell_b (ac_O0_13 o) (below_alloc _ o1); have ac_O1_13 := fun o => cell_b (c_O1_13) (below_alloc _ o); have bc_O1_13 := fun o o1 => cell_b (ac_O1_13 o) (below_alloc _ o1); have ac_O2_13 := fun o => cell_b (c_O2_13) (below_alloc _ o); have bc_O2_13 := fun o o1 => cell_b (ac_O2_13 o) (below_alloc _ o1); have ac_R0_13 := fun o => cell_b (c_R0_13) (below_alloc _ o); have bc_R0_13 := fun o o1 => cell_b (ac_R0_13 o) (below_alloc _ o1); have ac_R1_13 := fun o => cell_b (c_R1_13) (below_alloc _ o); have bc_R1_13 := fun o o1 => cell_b (ac_R1_13 o) (below_alloc _ o1); have ac_R2_13 := fun o => cell_b (c_R2_13) (below_alloc _ o); have bc_R2_13 := fun o o1 => cell_b (ac_R2_13 o) (below_alloc _ o1); have ac_X0_13 := fun o => cell_b (c_X0_13) (below_alloc _ o); have bc_X0_13 := fun o o1 => cell_b (ac_X0_13 o) (below_alloc _ o1); have ac_X1_13 := fun o => cell_b (c_X1_13) (below_alloc _ o); have bc_X1_13 := fun o o1 => cell_b (ac_X1_13 o) (below_alloc _ o1); have af_O0_13 := fun o => frz_b (cell_lt (c_O0_13)) (f_O0_13) (below_alloc _ o); have bf_O0_13 := fun o o1 => frz_b (cell_lt (ac_O0_13 o)) (af_O0_13 o) (below_alloc _ o1); have af_O1_13 := fun o => frz_b (cell_lt (c_O1_13)) (f_O1_13) (below_alloc _ o); have bf_O1_13 := fun o o1 => frz_b (cell_lt (ac_O1_13 o)) (af_O1_13 o) (below_alloc _ o1); have af_O2_13 := fun o => frz_b (cell_lt (c_O2_13)) (f_O2_13) (below_alloc _ o); have bf_O2_13 := fun o o1 => frz_b (cell_lt (ac_O2_13 o)) (af_O2_13 o) (below_alloc _ o1); have af_R0_13 := fun o => frz_b (cell_lt (c_R0_13)) (f_R0_13) (below_alloc _ o); have bf_R0_13 := fun o o1 => frz_b (cell_lt (ac_R0_13 o)) (af_R0_13 o) (below_alloc _ o1); have af_R1_13 := fun o => frz_b (cell_lt (c_R1_13)) (f_R1_13) (below_alloc _ o); have bf_R1_13 := fun o o1 => frz_b (cell_lt (ac_R1_13 o)) (af_R1_13 o) (below_alloc _ o1); have af_R2_13 := fun o => frz_b (cell_lt (c_R2_13)) (f_R2_13) (below_alloc _ o); have bf_R2_13 := fun o o1 => frz_b (cell_lt (ac_R2_13 o)) (af_R2_13 o) (below_alloc _ o1); clear hgr c_O0_12 c_O1_12 c_O2_12 c_R0_12 c_R1_12 c_R2_12 c_X0_12 c_X1_12 f_O0_12 f_O1_12 f_O2_12 f_R0_12 f_R1_12 f_R2_12 o_k_12 r_t_12 T_12 ac_O0_12 bc_O0_12 ac_O1_12 bc_O1_12 ac_O2_12 bc_O2_12 ac_R0_12 bc_R0_12 ac_R1_12 bc_R1_12 ac_R2_12 bc_R2_12 ac_X0_12 bc_X0_12 ac_X1_12 bc_X1_12 af_O0_12 bf_O0_12 af_O1_12 bf_O1_12 af_O2_12 bf_O2_12 af_R0_12 bf_R0_12 af_R1_12 bf_R1_12 af_R2_12 bf_R2_12 hown ho hloc))
          go_wp2_with fail
          have e9 : (Y ++ [x1]).length = Y.length + 1 := by simp
          have HK : Hid (Ow ((w13).setCell ⟨w1.heap.size, 2, none⟩ (.slice a6 (Z.length) c6)) (w.heap.size + 1) (.slice a5 (Y ++ [x1]).length c5) (Y ++ [x1])) := Lib.hid (by rw [e9]; exact ow_eq (own_set (p := ⟨w1.heap.size, 2, none⟩) (o_k_13.out) (fun g h => by have h1 := lo_k.out g h; have h2 := hi_k.out g h; have h5 := iv_k.out g h; show g ≠ w1.heap.size; omega) _) rfl e9.symm)
          go_roundw
          case rel => exact ⟨wrap64 (p1 - x2), Y ++ [x1], Z, a5, c5, a6, c6, by rw [e9], by rw [e9]; first | omega | (simp; omega), HK.out, cell_set (p := ⟨w1.heap.size, 2, none⟩) (c_O0_13) (ne_off (by decide)), cell_set (p := ⟨w1.heap.size, 2, none⟩) (c_O1_13) (ne_off (by decide)), World.cell?_setCell_same _ _ _ (c_O2_13), (World.frozen?_setCell _ _ _ _).trans (f_O0_13), (World.frozen?_setCell _ _ _ _).trans (f_O1_13), (World.frozen?_setCell _ _ _ _).trans (f_O2_13), cell_set (p := ⟨w1.heap.size, 2, none⟩) (c_R0_13) (ne_blk (by omega)), cell_set (p := ⟨w1.heap.size, 2, none⟩) (c_R1_13) (ne_blk (by omega)), cell_set (p := ⟨w1.heap.size, 2, none⟩) (c_R2_13) (ne_blk (by omega)), (World.frozen?_setCell _ _ _ _).trans (f_R0_13), (World.frozen?_setCell _ _ _ _).trans (f_R1_13), (World.frozen?_setCell _ _ _ _).trans (f_R2_13), rdxb_mono (own_rdxb (own_set (p := ⟨w1.heap.size, 2, none⟩) (o_n_13.out) (fun g h => by have h1 := lo_n.out g h; have h2 := hi_n.out g h; have h5 := iv_n.out g h; show g ≠ w1.heap.size; omega) _)) (by omega), fun g h => by have h1 := lo_n.out g h; omega, fun g h => ⟨by rw [e9] at h; have h1 := lo_k.out g h; have h5 := iv_k.out g h; omega, fun g2 h2 => by rw [e9] at h; have h3 := hi_k.out g h; have h4 := lo_n.out g2 h2; omega⟩, ((T_13.out).setCell (p := ⟨w1.heap.size, 2, none⟩) (by show w.heap.size ≤ w1.heap.size; omega) _), Nat.lt_of_lt_of_le (show w1.heap.size < w13.heap.size by omega) (by simp)⟩
          case measure => simp [lenV]; omega
      · go_wp2_with fail
        go_quiet (fail)
        go_wp2_with fail
        refine bodyPost_ret (v := .tuple #[.agg #[.int .i64 p1, .int .i64 q, .slice (some ⟨gx, ox, none⟩) (Z.length + 1) cap2], .slice ag Y.length cg]) (by simp [results, Tryd.results45, go_sem, c_R0_10, c_R1_10, c_R2_10]) rfl ⟨p1, q, (x1, x2) :: Z, Y, (some ⟨gx, ox, none⟩), cap2, ag, cg, rfl, by first | omega | (simp at hyz ⊢; omega), rdxb_mono (rdxb_set (p := ⟨w.heap.size + 1, 2, none⟩) (rdxb_set (p := ⟨w.heap.size + 1, 1, none⟩) (rdxb_set (p := ⟨w.heap.size + 1, 0, none⟩) (rdxb_b (r_d_10.out) (drewN_below _ _)) (fun g h => by have h1 := lr_d.out g h; have h2 := hr_d.out g h; have h9 : g = gx := (by simp only [Value.ownBlock, Option.some.injEq] at h; omega); show g ≠ w.heap.size + 1; omega) _) (fun g h => by have h1 := lr_d.out g h; have h2 := hr_d.out g h; have h9 : g = gx := (by simp only [Value.ownBlock, Option.some.injEq] at h; omega); show g ≠ w.heap.size + 1; omega) _) (fun g h => by have h1 := lr_d.out g h; have h2 := hr_d.out g h; have h9 : g = gx := (by simp only [Value.ownBlock, Option.some.injEq] at h; omega); show g ≠ w.heap.size + 1; omega) _) (by omega), rdb_mono (ow_rdb (own_set (p := ⟨w.heap.size + 1, 2, none⟩) (own_set (p := ⟨w.heap.size + 1, 1, none⟩) (own_set (p := ⟨w.heap.size + 1, 0, none⟩) (own_below (o_g_10.out) (drewN_below _ _)) (fun g h => by have h1 := lo_g.out g h; have h2 := hi_g.out g h; have h9 := (HNG.out g h).1; have h8 := HGG.out g h; show g ≠ w.heap.size + 1; omega) _) (fun g h => by have h1 := lo_g.out g h; have h2 := hi_g.out g h; have h9 := (HNG.out g h).1; have h8 := HGG.out g h; show g ≠ w.heap.size + 1; omega) _) (fun g h => by have h1 := lo_g.out g h; have h2 := hi_g.out g h; have h9 := (HNG.out g h).1; have h8 := HGG.out g h; show g ≠ w.heap.size + 1; omega) _)) (by omega), ((((below_trans (T_10.out) (drewN_below _ _)).setCell (p := ⟨w.heap.size + 1, 0, none⟩) (by show w.heap.size ≤ w.heap.size + 1; omega) _).setCell (p := ⟨w.heap.size + 1, 1, none⟩) (by show w.heap.size ≤ w.heap.size + 1; omega) _).setCell (p := ⟨w.heap.size + 1, 2, none⟩) (by show w.heap.size ≤ w.heap.size + 1; omega) _)⟩

/-- A semaphore with a queue no longer than m, and what else is handed back. -/
def SemP2 (w : World) (m : Nat) (f : Value → Prop) (e : Ending) (w' : World) : Prop :=
  ∃ (p q : Int) (Z : List (Int × Int)) (a : Option Addr) (cap : Nat) (vg : Value) (ok : Bool), e = .returned (.tuple #[.agg #[.int .i64 p, .int .i64 q, .slice a Z.length cap], vg, .bool ok]) ∧ f vg ∧ Z.length ≤ m ∧ RdWB w' w.heap.size (.slice a Z.length cap) Z ∧ Below w.heap.size w w'
set_option maxHeartbeats 4000000 in
set_option maxRecDepth 100000 in
theorem S_Release (w : World) (p q : Int) (v : Value) (xs : List (Int × Int)) (n : Int) (hv : RdWB w 0 v xs) (hl : xs.length ≤ 1000) :
    Calls Tryd.prog 39 #[.agg #[.int .i64 p, .int .i64 q, v], .int .i64 n] w (SemP2 w xs.length (fun _ => True)) := by
  have r_d_0 := Lib.hid hv
  have lr_d := Lib.hid (rdxb_lo hv)
  have hr_d := Lib.hid (rdxb_hi hv)
  obtain ⟨⟨a, cap, rfl, hcap, hnc, hlen, hc⟩, hb⟩ := hv
  clear hnc hc hb hlen
  by_cases hs : sval p q xs = true
  · by_cases h1 : n < 1
    · have HS : Hid (sval p q xs = true) := Lib.hid (by simpa using hs)
      obtain ⟨hq1, hq2, hp1, hp2, hl6⟩ := sval_in hs
      clear hs
      go_enter Tryd.func39, Tryd.ntmps39
      have T_0 : Hid (Below w.heap.size w w) := Lib.hid (Below.refl _ _)
      go_wp2_with fail
      (with_reducible refine (S_SemValid _ p q _ xs (rdxb_x (rdxb_b (rdxb_b (r_d_0.out) (below_alloc _ _)) (below_alloc _ _))) (by omega)).mono ?_)
      rintro e w1 ⟨rfl, hb⟩
      have c_A0_1 := cell_b (p := ⟨w.heap.size, 0, none⟩) (v := .int .i64 p) (by first | (simp; done) | (simp [World.cell?_alloc_past, World.cell?_alloc_at]; done)) hb
      have c_A1_1 := cell_b (p := ⟨w.heap.size, 1, none⟩) (v := .int .i64 q) (by first | (simp; done) | (simp [World.cell?_alloc_past, World.cell?_alloc_at]; done)) hb
      have c_A2_1 := cell_b (p := ⟨w.heap.size, 2, none⟩) (v := .slice a xs.length cap) (by first | (simp; done) | (simp [World.cell?_alloc_past, World.cell?_alloc_at]; done)) hb
      have c_R0_1 := cell_b (p := ⟨w.heap.size + 1, 0, none⟩) (v := .int .i64 0) (by first | (simp; done) | (simp [World.cell?_alloc_past, World.cell?_alloc_at]; done)) hb
      have f_R0_1 := frz_b (p := ⟨w.heap.size + 1, 0, none⟩) (by first | omega | (simp; done) | (simp; omega)) (show _ = false by first | (simp; done) | (simp [World.frozen?_alloc_past, World.frozen?_alloc_at]; done)) hb
      have c_R1_1 := cell_b (p := ⟨w.heap.size + 1, 1, none⟩) (v := .int .i64 0) (by first | (simp; done) | (simp [World.cell?_alloc_past, World.cell?_alloc_at]; done)) hb
      have f_R1_1 := frz_b (p := ⟨w.heap.size + 1, 1, none⟩) (by first | omega | (simp; done) | (simp; omega)) (show _ = false by first | (simp; done) | (simp [World.frozen?_alloc_past, World.frozen?_alloc_at]; done)) hb
      have c_R2_1 := cell_b (p := ⟨w.heap.size + 1, 2, none⟩) (v := .slice none 0 0) (by first | (simp; done) | (simp [World.cell?_alloc_past, World.cell?_alloc_at]; done)) hb
      have f_R2_1 := frz_b (p := ⟨w.heap.size + 1, 2, none⟩) (by first | omega | (simp; done) | (simp; omega)) (show _ = false by first | (simp; done) | (simp [World.frozen?_alloc_past, World.frozen?_alloc_at]; done)) hb
      have r_d_1 := Lib.hid (rdxb_b (rdxb_b (rdxb_b (r_d_0.out) (below_alloc _ _)) (below_alloc _ _)) hb)
      have T_1 := Lib.hid (below_trans (below_trans (below_trans (T_0.out) (below_alloc _ _)) (below_alloc _ _)) hb)
      have z_1 : w.heap.size + 2 ≤ w1.heap.size := (by have := hb.size; (try simp at this); omega)
      rw [HS.out]
      have ac_A0_1 := fun o => cell_b (c_A0_1) (below_alloc _ o)
      have bc_A0_1 := fun o o1 => cell_b (ac_A0_1 o) (below_alloc _ o1)
      have ac_A1_1 := fun o => cell_b (c_A1_1) (below_alloc _ o)
      have bc_A1_1 := fun o o1 => cell_b (ac_A1_1 o) (below_alloc _ o1)
      have ac_A2_1 := fun o => cell_b (c_A2_1) (below_alloc _ o)
      have bc_A2_1 := fun o o1 => cell_b (ac_A2_1 o) (below_alloc _ o1)
      have ac_R0_1 := fun o => cell_b (c_R0_1) (below_alloc _ o)
      have bc_R0_1 := fun o o1 => cell_b (ac_R0_1 o) (below_alloc _ o1)
      have ac_R1_1 := fun o => cell_b (c_R1_1) (below_alloc _ o)
      have bc_R1_1 := fun o o1 => cell_b (ac_R1_1 o) (below_alloc _ o1)
      have ac_R2_1 := fun o => cell_b (c_R2_1) (below_alloc _ o)
      have bc_R2_1 := fun o o1 => cell_b (ac_R2_1 o) (below_alloc _ o1)
      have af_R0_1 := fun o => frz_b (cell_lt (c_R0_1)) (f_R0_1) (below_alloc _ o)
      have bf_R0_1 := fun o o1 => frz_b (cell_lt (ac_R0_1 o)) (af_R0_1 o) (below_alloc _ o1)
      have af_R1_1 := fun o => frz_b (cell_lt (c_R1_1)) (f_R1_1) (below_alloc _ o)
      have bf_R1_1 := fun o o1 => frz_b (cell_lt (ac_R1_1 o)) (af_R1_1 o) (below_alloc _ o1)
      have af_R2_1 := fun o => frz_b (cell_lt (c_R2_1)) (f_R2_1) (below_alloc _ o)
      have bf_R2_1 := fun o o1 => frz_b (cell_lt (ac_R2_1 o)) (af_R2_1 o) (below_alloc _ o1)
      clear hb r_d_0 T_0
      go_wp2_with fail
      refine bodyPost_ret (v := .tuple #[.agg #[.int .i64 0, .int .i64 0, .slice none 0 0], .slice (some ⟨w1.heap.size, 0, none⟩) 0 0, .bool false]) (by simp [results, Tryd.results39, go_sem, ac_R0_1, ac_R1_1, ac_R2_1]) rfl ⟨0, 0, [], none, 0, _, false, rfl, trivial, by simp, rdxb_nil _ _ _, ((((below_trans (T_1.out) (below_alloc _ _)).setCell (p := ⟨w.heap.size + 1, 0, none⟩) (by show w.heap.size ≤ w.heap.size + 1; omega) _).setCell (p := ⟨w.heap.size + 1, 1, none⟩) (by show w.heap.size ≤ w.heap.size + 1; omega) _).setCell (p := ⟨w.heap.size + 1, 2, none⟩) (by show w.heap.size ≤ w.heap.size + 1; omega) _)⟩
    by_cases h2 : q - p < n
    · have h3 : 1 ≤ n := by omega
      clear h1
      have HS : Hid (sval p q xs = true) := Lib.hid (by simpa using hs)
      obtain ⟨hq1, hq2, hp1, hp2, hl6⟩ := sval_in hs
      clear hs
      go_enter Tryd.func39, Tryd.ntmps39
      have T_0 : Hid (Below w.heap.size w w) := Lib.hid (Below.refl _ _)
      go_wp2_with fail
      (with_reducible refine (S_SemValid _ p q _ xs (rdxb_x (rdxb_b (rdxb_b (r_d_0.out) (below_alloc _ _)) (below_alloc _ _))) (by omega)).mono ?_)
      rintro e w1 ⟨rfl, hb⟩
      have c_A0_1 := cell_b (p := ⟨w.heap.size, 0, none⟩) (v := .int .i64 p) (by first | (simp; done) | (simp [World.cell?_alloc_past, World.cell?_alloc_at]; done)) hb
      have c_A1_1 := cell_b (p := ⟨w.heap.size, 1, none⟩) (v := .int .i64 q) (by first | (simp; done) | (simp [World.cell?_alloc_past, World.cell?_alloc_at]; done)) hb
      have c_A2_1 := cell_b (p := ⟨w.heap.size, 2, none⟩) (v := .slice a xs.length cap) (by first | (simp; done) | (simp [World.cell?_alloc_past, World.cell?_alloc_at]; done)) hb
      have c_R0_1 := cell_b (p := ⟨w.heap.size + 1, 0, none⟩) (v := .int .i64 0) (by first | (simp; done) | (simp [World.cell?_alloc_past, World.cell?_alloc_at]; done)) hb
      have f_R0_1 := frz_b (p := ⟨w.heap.size + 1, 0, none⟩) (by first | omega | (simp; done) | (simp; omega)) (show _ = false by first | (simp; done) | (simp [World.frozen?_alloc_past, World.frozen?_alloc_at]; done)) hb
      have c_R1_1 := cell_b (p := ⟨w.heap.size + 1, 1, none⟩) (v := .int .i64 0) (by first | (simp; done) | (simp [World.cell?_alloc_past, World.cell?_alloc_at]; done)) hb
      have f_R1_1 := frz_b (p := ⟨w.heap.size + 1, 1, none⟩) (by first | omega | (simp; done) | (simp; omega)) (show _ = false by first | (simp; done) | (simp [World.frozen?_alloc_past, World.frozen?_alloc_at]; done)) hb
      have c_R2_1 := cell_b (p := ⟨w.heap.size + 1, 2, none⟩) (v := .slice none 0 0) (by first | (simp; done) | (simp [World.cell?_alloc_past, World.cell?_alloc_at]; done)) hb
      have f_R2_1 := frz_b (p := ⟨w.heap.size + 1, 2, none⟩) (by first | omega | (simp; done) | (simp; omega)) (show _ = false by first | (simp; done) | (simp [World.frozen?_alloc_past, World.frozen?_alloc_at]; done)) hb
      have r_d_1 := Lib.hid (rdxb_b (rdxb_b (rdxb_b (r_d_0.out) (below_alloc _ _)) (below_alloc _ _)) hb)
      have T_1 := Lib.hid (below_trans (below_trans (below_trans (T_0.out) (below_alloc _ _)) (below_alloc _ _)) hb)
      have z_1 : w.heap.size + 2 ≤ w1.heap.size := (by have := hb.size; (try simp at this); omega)
      rw [HS.out]
      have ac_A0_1 := fun o => cell_b (c_A0_1) (below_alloc _ o)
      have bc_A0_1 := fun o o1 => cell_b (ac_A0_1 o) (below_alloc _ o1)
      have ac_A1_1 := fun o => cell_b (c_A1_1) (below_alloc _ o)
      have bc_A1_1 := fun o o1 => cell_b (ac_A1_1 o) (below_alloc _ o1)
      have ac_A2_1 := fun o => cell_b (c_A2_1) (below_alloc _ o)
      have bc_A2_1 := fun o o1 => cell_b (ac_A2_1 o) (below_alloc _ o1)
      have ac_R0_1 := fun o => cell_b (c_R0_1) (below_alloc _ o)
      have bc_R0_1 := fun o o1 => cell_b (ac_R0_1 o) (below_alloc _ o1)
      have ac_R1_1 := fun o => cell_b (c_R1_1) (below_alloc _ o)
      have bc_R1_1 := fun o o1 => cell_b (ac_R1_1 o) (below_alloc _ o1)
      have ac_R2_1 := fun o => cell_b (c_R2_1) (below_alloc _ o)
      have bc_R2_1 := fun o o1 => cell_b (ac_R2_1 o) (below_alloc _ o1)
      have af_R0_1 := fun o => frz_b (cell_lt (c_R0_1)) (f_R0_1) (below_alloc _ o)
      have bf_R0_1 := fun o o1 => frz_b (cell_lt (ac_R0_1 o)) (af_R0_1 o) (below_alloc _ o1)
      have af_R1_1 := fun o => frz_b (cell_lt (c_R1_1)) (f_R1_1) (below_alloc _ o)
      have bf_R1_1 := fun o o1 => frz_b (cell_lt (ac_R1_1 o)) (af_R1_1 o) (below_alloc _ o1)
      have af_R2_1 := fun o => frz_b (cell_lt (c_R2_1)) (f_R2_1) (below_alloc _ o)
      have bf_R2_1 := fun o o1 => frz_b (cell_lt (ac_R2_1 o)) (af_R2_1 o) (below_alloc _ o1)
      clear hb r_d_0 T_0
      go_wp2_with fail
      refine bodyPost_ret (v := .tuple #[.agg #[.int .i64 0, .int .i64 0, .slice none 0 0], .slice (some ⟨w1.heap.size, 0, none⟩) 0 0, .bool false]) (by simp [results, Tryd.results39, go_sem, ac_R0_1, ac_R1_1, ac_R2_1]) rfl ⟨0, 0, [], none, 0, _, false, rfl, trivial, by simp, rdxb_nil _ _ _, ((((below_trans (T_1.out) (below_alloc _ _)).setCell (p := ⟨w.heap.size + 1, 0, none⟩) (by show w.heap.size ≤ w.heap.size + 1; omega) _).setCell (p := ⟨w.heap.size + 1, 1, none⟩) (by show w.heap.size ≤ w.heap.size + 1; omega) _).setCell (p := ⟨w.heap.size + 1, 2, none⟩) (by show w.heap.size ≤ w.heap.size + 1; omega) _)⟩
    have h3 : 1 ≤ n := by omega
    have h4 : n ≤ q - p := by omega
    clear h1 h2
    have HS : Hid (sval p q xs = true) := Lib.hid (by simpa using hs)
    obtain ⟨hq1, hq2, hp1, hp2, hl6⟩ := sval_in hs
    clear hs
    go_enter Tryd.func39, Tryd.ntmps39
    have T_0 : Hid (Below w.heap.size w w) := Lib.hid (Below.refl _ _)
    go_wp2_with fail
    (with_reducible refine (S_SemValid _ p q _ xs (rdxb_x (rdxb_b (rdxb_b (r_d_0.out) (below_alloc _ _)) (below_alloc _ _))) (by omega)).mono ?_)
    rintro e w1 ⟨rfl, hb⟩
    have c_A0_1 := cell_b (p := ⟨w.heap.size, 0, none⟩) (v := .int .i64 p) (by first | (simp; done) | (simp [World.cell?_alloc_past, World.cell?_alloc_at]; done)) hb
    have c_A1_1 := cell_b (p := ⟨w.heap.size, 1, none⟩) (v := .int .i64 q) (by first | (simp; done) | (simp [World.cell?_alloc_past, World.cell?_alloc_at]; done)) hb
    have c_A2_1 := cell_b (p := ⟨w.heap.size, 2, none⟩) (v := .slice a xs.length cap) (by first | (simp; done) | (simp [World.cell?_alloc_past, World.cell?_alloc_at]; done)) hb
    have c_R0_1 := cell_b (p := ⟨w.heap.size + 1, 0, none⟩) (v := .int .i64 0) (by first | (simp; done) | (simp [World.cell?_alloc_past, World.cell?_alloc_at]; done)) hb
    have f_R0_1 := frz_b (p := ⟨w.heap.size + 1, 0, none⟩) (by first | omega | (simp; done) | (simp; omega)) (show _ = false by first | (simp; done) | (simp [World.frozen?_alloc_past, World.frozen?_alloc_at]; done)) hb
    have c_R1_1 := cell_b (p := ⟨w.heap.size + 1, 1, none⟩) (v := .int .i64 0) (by first | (simp; done) | (simp [World.cell?_alloc_past, World.cell?_alloc_at]; done)) hb
    have f_R1_1 := frz_b (p := ⟨w.heap.size + 1, 1, none⟩) (by first | omega | (simp; done) | (simp; omega)) (show _ = false by first | (simp; done) | (simp [World.frozen?_alloc_past, World.frozen?_alloc_at]; done)) hb
    have c_R2_1 := cell_b (p := ⟨w.heap.size + 1, 2, none⟩) (v := .slice none 0 0) (by first | (simp; done) | (simp [World.cell?_alloc_past, World.cell?_alloc_at]; done)) hb
    have f_R2_1 := frz_b (p := ⟨w.heap.size + 1, 2, none⟩) (by first | omega | (simp; done) | (simp; omega)) (show _ = false by first | (simp; done) | (simp [World.frozen?_alloc_past, World.frozen?_alloc_at]; done)) hb
    have r_d_1 := Lib.hid (rdxb_b (rdxb_b (rdxb_b (r_d_0.out) (below_alloc _ _)) (below_alloc _ _)) hb)
    have T_1 := Lib.hid (below_trans (below_trans (below_trans (T_0.out) (below_alloc _ _)) (below_alloc _ _)) hb)
    have z_1 : w.heap.size + 2 ≤ w1.heap.size := (by have := hb.size; (try simp at this); omega)
    rw [HS.out]
    have ac_A0_1 := fun o => cell_b (c_A0_1) (below_alloc _ o)
    have bc_A0_1 := fun o o1 => cell_b (ac_A0_1 o) (below_alloc _ o1)
    have ac_A1_1 := fun o => cell_b (c_A1_1) (below_alloc _ o)
    have bc_A1_1 := fun o o1 => cell_b (ac_A1_1 o) (below_alloc _ o1)
    have ac_A2_1 := fun o => cell_b (c_A2_1) (below_alloc _ o)
    have bc_A2_1 := fun o o1 => cell_b (ac_A2_1 o) (below_alloc _ o1)
    have ac_R0_1 := fun o => cell_b (c_R0_1) (below_alloc _ o)
    have bc_R0_1 := fun o o1 => cell_b (ac_R0_1 o) (below_alloc _ o1)
    have ac_R1_1 := fun o => cell_b (c_R1_1) (below_alloc _ o)
    have bc_R1_1 := fun o o1 => cell_b (ac_R1_1 o) (below_alloc _ o1)
    have ac_R2_1 := fun o => cell_b (c_R2_1) (below_alloc _ o)
    have bc_R2_1 := fun o o1 => cell_b (ac_R2_1 o) (below_alloc _ o1)
    have af_R0_1 := fun o => frz_b (cell_lt (c_R0_1)) (f_R0_1) (below_alloc _ o)
    have bf_R0_1 := fun o o1 => frz_b (cell_lt (ac_R0_1 o)) (af_R0_1 o) (below_alloc _ o1)
    have af_R1_1 := fun o => frz_b (cell_lt (c_R1_1)) (f_R1_1) (below_alloc _ o)
    have bf_R1_1 := fun o o1 => frz_b (cell_lt (ac_R1_1 o)) (af_R1_1 o) (below_alloc _ o1)
    have af_R2_1 := fun o => frz_b (cell_lt (c_R2_1)) (f_R2_1) (below_alloc _ o)
    have bf_R2_1 := fun o o1 => frz_b (cell_lt (ac_R2_1 o)) (af_R2_1 o) (below_alloc _ o1)
    clear hb r_d_0 T_0
    go_wp2_with fail
    (with_reducible refine (S_l1Copy _ p q _ xs (r_d_1.out) (by omega)).mono ?_)
    rintro e w2 ⟨a0, cap0, rfl, hd, hb⟩
    have c_A0_2 := cell_b (c_A0_1) hb
    have c_A1_2 := cell_b (c_A1_1) hb
    have c_A2_2 := cell_b (c_A2_1) hb
    have c_R0_2 := cell_b (c_R0_1) hb
    have c_R1_2 := cell_b (c_R1_1) hb
    have c_R2_2 := cell_b (c_R2_1) hb
    have f_R0_2 := frz_b (cell_lt (c_R0_1)) (f_R0_1) hb
    have f_R1_2 := frz_b (cell_lt (c_R1_1)) (f_R1_1) hb
    have f_R2_2 := frz_b (cell_lt (c_R2_1)) (f_R2_1) hb
    have r_d_2 := Lib.hid (rdxb_b (r_d_1.out) hb)
    have T_2 := Lib.hid (below_trans (T_1.out) hb)
    have z_2 : w1.heap.size ≤ w2.heap.size := (by have := hb.size; (try simp at this); omega)
    have o_e_2 := Lib.hid (own_base hd (show w1.heap.size ≤ _ by first | omega | (simp; done) | (simp; omega)))
    have lo_e := Lib.hid (own_lo o_e_2.out)
    have hi_e := Lib.hid (own_hi o_e_2.out)
    have ac_A0_2 := fun o => cell_b (c_A0_2) (below_alloc _ o)
    have bc_A0_2 := fun o o1 => cell_b (ac_A0_2 o) (below_alloc _ o1)
    have ac_A1_2 := fun o => cell_b (c_A1_2) (below_alloc _ o)
    have bc_A1_2 := fun o o1 => cell_b (ac_A1_2 o) (below_alloc _ o1)
    have ac_A2_2 := fun o => cell_b (c_A2_2) (below_alloc _ o)
    have bc_A2_2 := fun o o1 => cell_b (ac_A2_2 o) (below_alloc _ o1)
    have ac_R0_2 := fun o => cell_b (c_R0_2) (below_alloc _ o)
    have bc_R0_2 := fun o o1 => cell_b (ac_R0_2 o) (below_alloc _ o1)
    have ac_R1_2 := fun o => cell_b (c_R1_2) (below_alloc _ o)
    have bc_R1_2 := fun o o1 => cell_b (ac_R1_2 o) (below_alloc _ o1)
    have ac_R2_2 := fun o => cell_b (c_R2_2) (below_alloc _ o)
    have bc_R2_2 := fun o o1 => cell_b (ac_R2_2 o) (below_alloc _ o1)
    have af_R0_2 := fun o => frz_b (cell_lt (c_R0_2)) (f_R0_2) (below_alloc _ o)
    have bf_R0_2 := fun o o1 => frz_b (cell_lt (ac_R0_2 o)) (af_R0_2 o) (below_alloc _ o1)
    have af_R1_2 := fun o => frz_b (cell_lt (c_R1_2)) (f_R1_2) (below_alloc _ o)
    have bf_R1_2 := fun o o1 => frz_b (cell_lt (ac_R1_2 o)) (af_R1_2 o) (below_alloc _ o1)
    have af_R2_2 := fun o => frz_b (cell_lt (c_R2_2)) (f_R2_2) (below_alloc _ o)
    have bf_R2_2 := fun o o1 => frz_b (cell_lt (ac_R2_2 o)) (af_R2_2 o) (below_alloc _ o1)
    clear hb c_A0_1 c_A1_1 c_A2_1 c_R0_1 c_R1_1 c_R2_1 f_R0_1 f_R1_1 f_R2_1 r_d_1 T_1 ac_A0_1 bc_A0_1 ac_A1_1 bc_A1_1 ac_A2_1 bc_A2_1 ac_R0_1 bc_R0_1 ac_R1_1 bc_R1_1 ac_R2_1 bc_R2_1 af_R0_1 bf_R0_1 af_R1_1 bf_R1_1 af_R2_1 bf_R2_1 hd
    clear r_d_2 lr_d hr_d
    go_wp2_with fail
    (with_reducible refine (S_l1Serve _ (p + n) q _ xs (rdxb_mono (own_rdxb (own_below (o_e_2.out) (below_alloc _ _))) (Nat.zero_le _)) (by omega)).mono ?_)
    rintro e w3 ⟨p2, q2, Z, Y, a2, cap2, ag, cg, rfl, hyz, hd, hy, hb⟩
    have c_A0_3 := cell_b (cell_b (c_A0_2) (below_alloc _ _)) hb
    have c_A1_3 := cell_b (cell_b (c_A1_2) (below_alloc _ _)) hb
    have c_A2_3 := cell_b (cell_b (c_A2_2) (below_alloc _ _)) hb
    have c_R0_3 := cell_b (cell_b (c_R0_2) (below_alloc _ _)) hb
    have c_R1_3 := cell_b (cell_b (c_R1_2) (below_alloc _ _)) hb
    have c_R2_3 := cell_b (cell_b (c_R2_2) (below_alloc _ _)) hb
    have f_R0_3 := frz_b (cell_lt (cell_b (c_R0_2) (below_alloc _ _))) (frz_b (cell_lt (c_R0_2)) (f_R0_2) (below_alloc _ _)) hb
    have f_R1_3 := frz_b (cell_lt (cell_b (c_R1_2) (below_alloc _ _))) (frz_b (cell_lt (c_R1_2)) (f_R1_2) (below_alloc _ _)) hb
    have f_R2_3 := frz_b (cell_lt (cell_b (c_R2_2) (below_alloc _ _))) (frz_b (cell_lt (c_R2_2)) (f_R2_2) (below_alloc _ _)) hb
    have c_O0_3 := cell_b (p := ⟨w2.heap.size, 0, none⟩) (v := .int .i64 (p + n)) (by first | (simp; done) | (simp [World.cell?_alloc_past, World.cell?_alloc_at]; done)) hb
    have c_O1_3 := cell_b (p := ⟨w2.heap.size, 1, none⟩) (v := .int .i64 q) (by first | (simp; done) | (simp [World.cell?_alloc_past, World.cell?_alloc_at]; done)) hb
    have c_O2_3 := cell_b (p := ⟨w2.heap.size, 2, none⟩) (v := .slice a0 xs.length cap0) (by first | (simp; done) | (simp [World.cell?_alloc_past, World.cell?_alloc_at]; done)) hb
    have o_e_3 := Lib.hid (own_below (own_below (o_e_2.out) (below_alloc _ _)) hb)
    have T_3 := Lib.hid (below_trans (below_trans (T_2.out) (below_alloc _ _)) hb)
    have z_3 : w2.heap.size + 1 ≤ w3.heap.size := (by have := hb.size; (try simp at this); omega)
    have r_z_3 := Lib.hid (rdxb_mono hd (show w2.heap.size + 1 ≤ _ by first | omega | (simp; done) | (simp; omega)))
    have lr_z := Lib.hid (rdxb_lo r_z_3.out)
    have hr_z := Lib.hid (rdxb_hi r_z_3.out)
    have ac_A0_3 := fun o => cell_b (c_A0_3) (below_alloc _ o)
    have bc_A0_3 := fun o o1 => cell_b (ac_A0_3 o) (below_alloc _ o1)
    have ac_A1_3 := fun o => cell_b (c_A1_3) (below_alloc _ o)
    have bc_A1_3 := fun o o1 => cell_b (ac_A1_3 o) (below_alloc _ o1)
    have ac_A2_3 := fun o => cell_b (c_A2_3) (below_alloc _ o)
    have bc_A2_3 := fun o o1 => cell_b (ac_A2_3 o) (below_alloc _ o1)
    have ac_R0_3 := fun o => cell_b (c_R0_3) (below_alloc _ o)
    have bc_R0_3 := fun o o1 => cell_b (ac_R0_3 o) (below_alloc _ o1)
    have ac_R1_3 := fun o => cell_b (c_R1_3) (below_alloc _ o)
    have bc_R1_3 := fun o o1 => cell_b (ac_R1_3 o) (below_alloc _ o1)
    have ac_R2_3 := fun o => cell_b (c_R2_3) (below_alloc _ o)
    have bc_R2_3 := fun o o1 => cell_b (ac_R2_3 o) (below_alloc _ o1)
    have ac_O0_3 := fun o => cell_b (c_O0_3) (below_alloc _ o)
    have bc_O0_3 := fun o o1 => cell_b (ac_O0_3 o) (below_alloc _ o1)
    have ac_O1_3 := fun o => cell_b (c_O1_3) (below_alloc _ o)
    have bc_O1_3 := fun o o1 => cell_b (ac_O1_3 o) (below_alloc _ o1)
    have ac_O2_3 := fun o => cell_b (c_O2_3) (below_alloc _ o)
    have bc_O2_3 := fun o o1 => cell_b (ac_O2_3 o) (below_alloc _ o1)
    have af_R0_3 := fun o => frz_b (cell_lt (c_R0_3)) (f_R0_3) (below_alloc _ o)
    have bf_R0_3 := fun o o1 => frz_b (cell_lt (ac_R0_3 o)) (af_R0_3 o) (below_alloc _ o1)
    have af_R1_3 := fun o => frz_b (cell_lt (c_R1_3)) (f_R1_3) (below_alloc _ o)
    have bf_R1_3 := fun o o1 => frz_b (cell_lt (ac_R1_3 o)) (af_R1_3 o) (below_alloc _ o1)
    have af_R2_3 := fun o => frz_b (cell_lt (c_R2_3)) (f_R2_3) (below_alloc _ o)
    have bf_R2_3 := fun o o1 => frz_b (cell_lt (ac_R2_3 o)) (af_R2_3 o) (below_alloc _ o1)
    clear hb c_A0_2 c_A1_2 c_A2_2 c_R0_2 c_R1_2 c_R2_2 f_R0_2 f_R1_2 f_R2_2 o_e_2 T_2 ac_A0_2 bc_A0_2 ac_A1_2 bc_A1_2 ac_A2_2 bc_A2_2 ac_R0_2 bc_R0_2 ac_R1_2 bc_R1_2 ac_R2_2 bc_R2_2 af_R0_2 bf_R0_2 af_R1_2 bf_R1_2 af_R2_2 bf_R2_2 hd hy
    go_wp2_with fail
    refine bodyPost_ret (v := .tuple #[.agg #[.int .i64 p2, .int .i64 q2, .slice a2 Z.length cap2], .slice ag Y.length cg, .bool true]) (by simp [results, Tryd.results39, go_sem, ac_R0_3, ac_R1_3, ac_R2_3]) rfl ⟨p2, q2, Z, a2, cap2, _, true, rfl, trivial, by omega, rdxb_mono (rdxb_set (p := ⟨w.heap.size + 1, 2, none⟩) (rdxb_set (p := ⟨w.heap.size + 1, 1, none⟩) (rdxb_set (p := ⟨w.heap.size + 1, 0, none⟩) (rdxb_b (r_z_3.out) (below_alloc _ _)) (fun g h => by have h1 := lr_z.out g h; have h2 := hr_z.out g h; show g ≠ w.heap.size + 1; omega) _) (fun g h => by have h1 := lr_z.out g h; have h2 := hr_z.out g h; show g ≠ w.heap.size + 1; omega) _) (fun g h => by have h1 := lr_z.out g h; have h2 := hr_z.out g h; show g ≠ w.heap.size + 1; omega) _) (by omega), ((((below_trans (T_3.out) (below_alloc _ _)).setCell (p := ⟨w.heap.size + 1, 0, none⟩) (by show w.heap.size ≤ w.heap.size + 1; omega) _).setCell (p := ⟨w.heap.size + 1, 1, none⟩) (by show w.heap.size ≤ w.heap.size + 1; omega) _).setCell (p := ⟨w.heap.size + 1, 2, none⟩) (by show w.heap.size ≤ w.heap.size + 1; omega) _)⟩
  · have HS : Hid (sval p q xs = false) := Lib.hid (by simpa using hs)
    clear hs
    go_enter Tryd.func39, Tryd.ntmps39
    have T_0 : Hid (Below w.heap.size w w) := Lib.hid (Below.refl _ _)
    go_wp2_with fail
    (with_reducible refine (S_SemValid _ p q _ xs (rdxb_x (rdxb_b (rdxb_b (r_d_0.out) (below_alloc _ _)) (below_alloc _ _))) (by omega)).mono ?_)
    rintro e w1 ⟨rfl, hb⟩
    have c_A0_1 := cell_b (p := ⟨w.heap.size, 0, none⟩) (v := .int .i64 p) (by first | (simp; done) | (simp [World.cell?_alloc_past, World.cell?_alloc_at]; done)) hb
    have c_A1_1 := cell_b (p := ⟨w.heap.size, 1, none⟩) (v := .int .i64 q) (by first | (simp; done) | (simp [World.cell?_alloc_past, World.cell?_alloc_at]; done)) hb
    have c_A2_1 := cell_b (p := ⟨w.heap.size, 2, none⟩) (v := .slice a xs.length cap) (by first | (simp; done) | (simp [World.cell?_alloc_past, World.cell?_alloc_at]; done)) hb
    have c_R0_1 := cell_b (p := ⟨w.heap.size + 1, 0, none⟩) (v := .int .i64 0) (by first | (simp; done) | (simp [World.cell?_alloc_past, World.cell?_alloc_at]; done)) hb
    have f_R0_1 := frz_b (p := ⟨w.heap.size + 1, 0, none⟩) (by first | omega | (simp; done) | (simp; omega)) (show _ = false by first | (simp; done) | (simp [World.frozen?_alloc_past, World.frozen?_alloc_at]; done)) hb
    have c_R1_1 := cell_b (p := ⟨w.heap.size + 1, 1, none⟩) (v := .int .i64 0) (by first | (simp; done) | (simp [World.cell?_alloc_past, World.cell?_alloc_at]; done)) hb
    have f_R1_1 := frz_b (p := ⟨w.heap.size + 1, 1, none⟩) (by first | omega | (simp; done) | (simp; omega)) (show _ = false by first | (simp; done) | (simp [World.frozen?_alloc_past, World.frozen?_alloc_at]; done)) hb
    have c_R2_1 := cell_b (p := ⟨w.heap.size + 1, 2, none⟩) (v := .slice none 0 0) (by first | (simp; done) | (simp [World.cell?_alloc_past, World.cell?_alloc_at]; done)) hb
    have f_R2_1 := frz_b (p := ⟨w.heap.size + 1, 2, none⟩) (by first | omega | (simp; done) | (simp; omega)) (show _ = false by first | (simp; done) | (simp [World.frozen?_alloc_past, World.frozen?_alloc_at]; done)) hb
    have r_d_1 := Lib.hid (rdxb_b (rdxb_b (rdxb_b (r_d_0.out) (below_alloc _ _)) (below_alloc _ _)) hb)
    have T_1 := Lib.hid (below_trans (below_trans (below_trans (T_0.out) (below_alloc _ _)) (below_alloc _ _)) hb)
    have z_1 : w.heap.size + 2 ≤ w1.heap.size := (by have := hb.size; (try simp at this); omega)
    rw [HS.out]
    have ac_A0_1 := fun o => cell_b (c_A0_1) (below_alloc _ o)
    have bc_A0_1 := fun o o1 => cell_b (ac_A0_1 o) (below_alloc _ o1)
    have ac_A1_1 := fun o => cell_b (c_A1_1) (below_alloc _ o)
    have bc_A1_1 := fun o o1 => cell_b (ac_A1_1 o) (below_alloc _ o1)
    have ac_A2_1 := fun o => cell_b (c_A2_1) (below_alloc _ o)
    have bc_A2_1 := fun o o1 => cell_b (ac_A2_1 o) (below_alloc _ o1)
    have ac_R0_1 := fun o => cell_b (c_R0_1) (below_alloc _ o)
    have bc_R0_1 := fun o o1 => cell_b (ac_R0_1 o) (below_alloc _ o1)
    have ac_R1_1 := fun o => cell_b (c_R1_1) (below_alloc _ o)
    have bc_R1_1 := fun o o1 => cell_b (ac_R1_1 o) (below_alloc _ o1)
    have ac_R2_1 := fun o => cell_b (c_R2_1) (below_alloc _ o)
    have bc_R2_1 := fun o o1 => cell_b (ac_R2_1 o) (below_alloc _ o1)
    have af_R0_1 := fun o => frz_b (cell_lt (c_R0_1)) (f_R0_1) (below_alloc _ o)
    have bf_R0_1 := fun o o1 => frz_b (cell_lt (ac_R0_1 o)) (af_R0_1 o) (below_alloc _ o1)
    have af_R1_1 := fun o => frz_b (cell_lt (c_R1_1)) (f_R1_1) (below_alloc _ o)
    have bf_R1_1 := fun o o1 => frz_b (cell_lt (ac_R1_1 o)) (af_R1_1 o) (below_alloc _ o1)
    have af_R2_1 := fun o => frz_b (cell_lt (c_R2_1)) (f_R2_1) (below_alloc _ o)
    have bf_R2_1 := fun o o1 => frz_b (cell_lt (ac_R2_1 o)) (af_R2_1 o) (below_alloc _ o1)
    clear hb r_d_0 T_0
    go_wp2_with fail
    refine bodyPost_ret (v := .tuple #[.agg #[.int .i64 0, .int .i64 0, .slice none 0 0], .slice (some ⟨w1.heap.size, 0, none⟩) 0 0, .bool false]) (by simp [results, Tryd.results39, go_sem, ac_R0_1, ac_R1_1, ac_R2_1]) rfl ⟨0, 0, [], none, 0, _, false, rfl, trivial, by simp, rdxb_nil _ _ _, ((((below_trans (T_1.out) (below_alloc _ _)).setCell (p := ⟨w.heap.size + 1, 0, none⟩) (by show w.heap.size ≤ w.heap.size + 1; omega) _).setCell (p := ⟨w.heap.size + 1, 1, none⟩) (by show w.heap.size ≤ w.heap.size + 1; omega) _).setCell (p := ⟨w.heap.size + 1, 2, none⟩) (by show w.heap.size ≤ w.heap.size + 1; omega) _)⟩

set_option maxHeartbeats 4000000 in
set_option maxRecDepth 100000 in
theorem S_Acquire (w : World) (p q : Int) (v : Value) (xs : List (Int × Int)) (t n : Int) (hv : RdWB w 0 v xs) (hl : xs.length ≤ 1000) :
    Calls Tryd.prog 40 #[.agg #[.int .i64 p, .int .i64 q, v], .int .i64 t, .int .i64 n] w (SemP2 w (xs.length + 1) (fun u => ∃ b : Bool, u = .bool b)) := by
  obtain ⟨j0, hj, hy0, hy1, hy2⟩ := info_parts infoW
  have r_d_0 := Lib.hid hv
  have lr_d := Lib.hid (rdxb_lo hv)
  have hr_d := Lib.hid (rdxb_hi hv)
  obtain ⟨⟨a, cap, rfl, hcap, hnc, hlen, hc⟩, hb⟩ := hv
  clear hnc hc hb hlen
  by_cases hs : sval p q xs = true
  · by_cases ht : thr t = true
    rotate_left
    · have HS : Hid (sval p q xs = true) := Lib.hid (by simpa using hs)
      obtain ⟨hq1, hq2, hp1, hp2, hl6⟩ := sval_in hs
      clear hs
      have HT : Hid (thr t = false) := Lib.hid (by simpa using ht)
      clear ht
      go_enter Tryd.func40, Tryd.ntmps40
      have T_0 : Hid (Below w.heap.size w w) := Lib.hid (Below.refl _ _)
      go_wp2_with fail
      (with_reducible refine (S_SemValid _ p q _ xs (rdxb_x (rdxb_b (rdxb_b (r_d_0.out) (below_alloc _ _)) (below_alloc _ _))) (by omega)).mono ?_)
      rintro e w1 ⟨rfl, hb⟩
      have c_A0_1 := cell_b (p := ⟨w.heap.size, 0, none⟩) (v := .int .i64 p) (by first | (simp; done) | (simp [World.cell?_alloc_past, World.cell?_alloc_at]; done)) hb
      have c_A1_1 := cell_b (p := ⟨w.heap.size, 1, none⟩) (v := .int .i64 q) (by first | (simp; done) | (simp [World.cell?_alloc_past, World.cell?_alloc_at]; done)) hb
      have c_A2_1 := cell_b (p := ⟨w.heap.size, 2, none⟩) (v := .slice a xs.length cap) (by first | (simp; done) | (simp [World.cell?_alloc_past, World.cell?_alloc_at]; done)) hb
      have c_R0_1 := cell_b (p := ⟨w.heap.size + 1, 0, none⟩) (v := .int .i64 0) (by first | (simp; done) | (simp [World.cell?_alloc_past, World.cell?_alloc_at]; done)) hb
      have f_R0_1 := frz_b (p := ⟨w.heap.size + 1, 0, none⟩) (by first | omega | (simp; done) | (simp; omega)) (show _ = false by first | (simp; done) | (simp [World.frozen?_alloc_past, World.frozen?_alloc_at]; done)) hb
      have c_R1_1 := cell_b (p := ⟨w.heap.size + 1, 1, none⟩) (v := .int .i64 0) (by first | (simp; done) | (simp [World.cell?_alloc_past, World.cell?_alloc_at]; done)) hb
      have f_R1_1 := frz_b (p := ⟨w.heap.size + 1, 1, none⟩) (by first | omega | (simp; done) | (simp; omega)) (show _ = false by first | (simp; done) | (simp [World.frozen?_alloc_past, World.frozen?_alloc_at]; done)) hb
      have c_R2_1 := cell_b (p := ⟨w.heap.size + 1, 2, none⟩) (v := .slice none 0 0) (by first | (simp; done) | (simp [World.cell?_alloc_past, World.cell?_alloc_at]; done)) hb
      have f_R2_1 := frz_b (p := ⟨w.heap.size + 1, 2, none⟩) (by first | omega | (simp; done) | (simp; omega)) (show _ = false by first | (simp; done) | (simp [World.frozen?_alloc_past, World.frozen?_alloc_at]; done)) hb
      have r_d_1 := Lib.hid (rdxb_b (rdxb_b (rdxb_b (r_d_0.out) (below_alloc _ _)) (below_alloc _ _)) hb)
      have T_1 := Lib.hid (below_trans (below_trans (below_trans (T_0.out) (below_alloc _ _)) (below_alloc _ _)) hb)
      have z_1 : w.heap.size + 2 ≤ w1.heap.size := (by have := hb.size; (try simp at this); omega)
      rw [HS.out]
      have ac_A0_1 := fun o => cell_b (c_A0_1) (below_alloc _ o)
      have bc_A0_1 := fun o o1 => cell_b (ac_A0_1 o) (below_alloc _ o1)
      have ac_A1_1 := fun o => cell_b (c_A1_1) (below_alloc _ o)
      have bc_A1_1 := fun o o1 => cell_b (ac_A1_1 o) (below_alloc _ o1)
      have ac_A2_1 := fun o => cell_b (c_A2_1) (below_alloc _ o)
      have bc_A2_1 := fun o o1 => cell_b (ac_A2_1 o) (below_alloc _ o1)
      have ac_R0_1 := fun o => cell_b (c_R0_1) (below_alloc _ o)
      have bc_R0_1 := fun o o1 => cell_b (ac_R0_1 o) (below_alloc _ o1)
      have ac_R1_1 := fun o => cell_b (c_R1_1) (below_alloc _ o)
      have bc_R1_1 := fun o o1 => cell_b (ac_R1_1 o) (below_alloc _ o1)
      have ac_R2_1 := fun o => cell_b (c_R2_1) (below_alloc _ o)
      have bc_R2_1 := fun o o1 => cell_b (ac_R2_1 o) (below_alloc _ o1)
      have af_R0_1 := fun o => frz_b (cell_lt (c_R0_1)) (f_R0_1) (below_alloc _ o)
      have bf_R0_1 := fun o o1 => frz_b (cell_lt (ac_R0_1 o)) (af_R0_1 o) (below_alloc _ o1)
      have af_R1_1 := fun o => frz_b (cell_lt (c_R1_1)) (f_R1_1) (below_alloc _ o)
      have bf_R1_1 := fun o o1 => frz_b (cell_lt (ac_R1_1 o)) (af_R1_1 o) (below_alloc _ o1)
      have af_R2_1 := fun o => frz_b (cell_lt (c_R2_1)) (f_R2_1) (below_alloc _ o)
      have bf_R2_1 := fun o o1 => frz_b (cell_lt (ac_R2_1 o)) (af_R2_1 o) (below_alloc _ o1)
      clear hb r_d_0 T_0
      go_wp2_with fail
      (with_reducible refine (S_l1Thread _ t).mono ?_)
      rintro e w9 ⟨rfl, rfl⟩
      rw [HT.out]
      go_wp2_with fail
      refine bodyPost_ret (v := .tuple #[.agg #[.int .i64 0, .int .i64 0, .slice none 0 0], .bool false, .bool false]) (by simp [results, Tryd.results40, go_sem, c_R0_1, c_R1_1, c_R2_1]) rfl ⟨0, 0, [], none, 0, _, false, rfl, ⟨_, rfl⟩, by simp, rdxb_nil _ _ _, ((((T_1.out).setCell (p := ⟨w.heap.size + 1, 0, none⟩) (by show w.heap.size ≤ w.heap.size + 1; omega) _).setCell (p := ⟨w.heap.size + 1, 1, none⟩) (by show w.heap.size ≤ w.heap.size + 1; omega) _).setCell (p := ⟨w.heap.size + 1, 2, none⟩) (by show w.heap.size ≤ w.heap.size + 1; omega) _)⟩
    by_cases h1 : n < 1
    · have HS : Hid (sval p q xs = true) := Lib.hid (by simpa using hs)
      obtain ⟨hq1, hq2, hp1, hp2, hl6⟩ := sval_in hs
      clear hs
      have HT : Hid (thr t = true) := Lib.hid (by simpa using ht)
      clear ht
      go_enter Tryd.func40, Tryd.ntmps40
      have T_0 : Hid (Below w.heap.size w w) := Lib.hid (Below.refl _ _)
      go_wp2_with fail
      (with_reducible refine (S_SemValid _ p q _ xs (rdxb_x (rdxb_b (rdxb_b (r_d_0.out) (below_alloc _ _)) (below_alloc _ _))) (by omega)).mono ?_)
      rintro e w1 ⟨rfl, hb⟩
      have c_A0_1 := cell_b (p := ⟨w.heap.size, 0, none⟩) (v := .int .i64 p) (by first | (simp; done) | (simp [World.cell?_alloc_past, World.cell?_alloc_at]; done)) hb
      have c_A1_1 := cell_b (p := ⟨w.heap.size, 1, none⟩) (v := .int .i64 q) (by first | (simp; done) | (simp [World.cell?_alloc_past, World.cell?_alloc_at]; done)) hb
      have c_A2_1 := cell_b (p := ⟨w.heap.size, 2, none⟩) (v := .slice a xs.length cap) (by first | (simp; done) | (simp [World.cell?_alloc_past, World.cell?_alloc_at]; done)) hb
      have c_R0_1 := cell_b (p := ⟨w.heap.size + 1, 0, none⟩) (v := .int .i64 0) (by first | (simp; done) | (simp [World.cell?_alloc_past, World.cell?_alloc_at]; done)) hb
      have f_R0_1 := frz_b (p := ⟨w.heap.size + 1, 0, none⟩) (by first | omega | (simp; done) | (simp; omega)) (show _ = false by first | (simp; done) | (simp [World.frozen?_alloc_past, World.frozen?_alloc_at]; done)) hb
      have c_R1_1 := cell_b (p := ⟨w.heap.size + 1, 1, none⟩) (v := .int .i64 0) (by first | (simp; done) | (simp [World.cell?_alloc_past, World.cell?_alloc_at]; done)) hb
      have f_R1_1 := frz_b (p := ⟨w.heap.size + 1, 1, none⟩) (by first | omega | (simp; done) | (simp; omega)) (show _ = false by first | (simp; done) | (simp [World.frozen?_alloc_past, World.frozen?_alloc_at]; done)) hb
      have c_R2_1 := cell_b (p := ⟨w.heap.size + 1, 2, none⟩) (v := .slice none 0 0) (by first | (simp; done) | (simp [World.cell?_alloc_past, World.cell?_alloc_at]; done)) hb
      have f_R2_1 := frz_b (p := ⟨w.heap.size + 1, 2, none⟩) (by first | omega | (simp; done) | (simp; omega)) (show _ = false by first | (simp; done) | (simp [World.frozen?_alloc_past, World.frozen?_alloc_at]; done)) hb
      have r_d_1 := Lib.hid (rdxb_b (rdxb_b (rdxb_b (r_d_0.out) (below_alloc _ _)) (below_alloc _ _)) hb)
      have T_1 := Lib.hid (below_trans (below_trans (below_trans (T_0.out) (below_alloc _ _)) (below_alloc _ _)) hb)
      have z_1 : w.heap.size + 2 ≤ w1.heap.size := (by have := hb.size; (try simp at this); omega)
      rw [HS.out]
      have ac_A0_1 := fun o => cell_b (c_A0_1) (below_alloc _ o)
      have bc_A0_1 := fun o o1 => cell_b (ac_A0_1 o) (below_alloc _ o1)
      have ac_A1_1 := fun o => cell_b (c_A1_1) (below_alloc _ o)
      have bc_A1_1 := fun o o1 => cell_b (ac_A1_1 o) (below_alloc _ o1)
      have ac_A2_1 := fun o => cell_b (c_A2_1) (below_alloc _ o)
      have bc_A2_1 := fun o o1 => cell_b (ac_A2_1 o) (below_alloc _ o1)
      have ac_R0_1 := fun o => cell_b (c_R0_1) (below_alloc _ o)
      have bc_R0_1 := fun o o1 => cell_b (ac_R0_1 o) (below_alloc _ o1)
      have ac_R1_1 := fun o => cell_b (c_R1_1) (below_alloc _ o)
      have bc_R1_1 := fun o o1 => cell_b (ac_R1_1 o) (below_alloc _ o1)
      have ac_R2_1 := fun o => cell_b (c_R2_1) (below_alloc _ o)
      have bc_R2_1 := fun o o1 => cell_b (ac_R2_1 o) (below_alloc _ o1)
      have af_R0_1 := fun o => frz_b (cell_lt (c_R0_1)) (f_R0_1) (below_alloc _ o)
      have bf_R0_1 := fun o o1 => frz_b (cell_lt (ac_R0_1 o)) (af_R0_1 o) (below_alloc _ o1)
      have af_R1_1 := fun o => frz_b (cell_lt (c_R1_1)) (f_R1_1) (below_alloc _ o)
      have bf_R1_1 := fun o o1 => frz_b (cell_lt (ac_R1_1 o)) (af_R1_1 o) (below_alloc _ o1)
      have af_R2_1 := fun o => frz_b (cell_lt (c_R2_1)) (f_R2_1) (below_alloc _ o)
      have bf_R2_1 := fun o o1 => frz_b (cell_lt (ac_R2_1 o)) (af_R2_1 o) (below_alloc _ o1)
      clear hb r_d_0 T_0
      go_wp2_with fail
      (with_reducible refine (S_l1Thread _ t).mono ?_)
      rintro e w9 ⟨rfl, rfl⟩
      rw [HT.out]
      go_wp2_with fail
      refine bodyPost_ret (v := .tuple #[.agg #[.int .i64 0, .int .i64 0, .slice none 0 0], .bool false, .bool false]) (by simp [results, Tryd.results40, go_sem, c_R0_1, c_R1_1, c_R2_1]) rfl ⟨0, 0, [], none, 0, _, false, rfl, ⟨_, rfl⟩, by simp, rdxb_nil _ _ _, ((((T_1.out).setCell (p := ⟨w.heap.size + 1, 0, none⟩) (by show w.heap.size ≤ w.heap.size + 1; omega) _).setCell (p := ⟨w.heap.size + 1, 1, none⟩) (by show w.heap.size ≤ w.heap.size + 1; omega) _).setCell (p := ⟨w.heap.size + 1, 2, none⟩) (by show w.heap.size ≤ w.heap.size + 1; omega) _)⟩
    by_cases h2 : q < n
    · have HS : Hid (sval p q xs = true) := Lib.hid (by simpa using hs)
      obtain ⟨hq1, hq2, hp1, hp2, hl6⟩ := sval_in hs
      clear hs
      have HT : Hid (thr t = true) := Lib.hid (by simpa using ht)
      clear ht
      have h3 : 1 ≤ n := by omega
      clear h1
      go_enter Tryd.func40, Tryd.ntmps40
      have T_0 : Hid (Below w.heap.size w w) := Lib.hid (Below.refl _ _)
      go_wp2_with fail
      (with_reducible refine (S_SemValid _ p q _ xs (rdxb_x (rdxb_b (rdxb_b (r_d_0.out) (below_alloc _ _)) (below_alloc _ _))) (by omega)).mono ?_)
      rintro e w1 ⟨rfl, hb⟩
      have c_A0_1 := cell_b (p := ⟨w.heap.size, 0, none⟩) (v := .int .i64 p) (by first | (simp; done) | (simp [World.cell?_alloc_past, World.cell?_alloc_at]; done)) hb
      have c_A1_1 := cell_b (p := ⟨w.heap.size, 1, none⟩) (v := .int .i64 q) (by first | (simp; done) | (simp [World.cell?_alloc_past, World.cell?_alloc_at]; done)) hb
      have c_A2_1 := cell_b (p := ⟨w.heap.size, 2, none⟩) (v := .slice a xs.length cap) (by first | (simp; done) | (simp [World.cell?_alloc_past, World.cell?_alloc_at]; done)) hb
      have c_R0_1 := cell_b (p := ⟨w.heap.size + 1, 0, none⟩) (v := .int .i64 0) (by first | (simp; done) | (simp [World.cell?_alloc_past, World.cell?_alloc_at]; done)) hb
      have f_R0_1 := frz_b (p := ⟨w.heap.size + 1, 0, none⟩) (by first | omega | (simp; done) | (simp; omega)) (show _ = false by first | (simp; done) | (simp [World.frozen?_alloc_past, World.frozen?_alloc_at]; done)) hb
      have c_R1_1 := cell_b (p := ⟨w.heap.size + 1, 1, none⟩) (v := .int .i64 0) (by first | (simp; done) | (simp [World.cell?_alloc_past, World.cell?_alloc_at]; done)) hb
      have f_R1_1 := frz_b (p := ⟨w.heap.size + 1, 1, none⟩) (by first | omega | (simp; done) | (simp; omega)) (show _ = false by first | (simp; done) | (simp [World.frozen?_alloc_past, World.frozen?_alloc_at]; done)) hb
      have c_R2_1 := cell_b (p := ⟨w.heap.size + 1, 2, none⟩) (v := .slice none 0 0) (by first | (simp; done) | (simp [World.cell?_alloc_past, World.cell?_alloc_at]; done)) hb
      have f_R2_1 := frz_b (p := ⟨w.heap.size + 1, 2, none⟩) (by first | omega | (simp; done) | (simp; omega)) (show _ = false by first | (simp; done) | (simp [World.frozen?_alloc_past, World.frozen?_alloc_at]; done)) hb
      have r_d_1 := Lib.hid (rdxb_b (rdxb_b (rdxb_b (r_d_0.out) (below_alloc _ _)) (below_alloc _ _)) hb)
      have T_1 := Lib.hid (below_trans (below_trans (below_trans (T_0.out) (below_alloc _ _)) (below_alloc _ _)) hb)
      have z_1 : w.heap.size + 2 ≤ w1.heap.size := (by have := hb.size; (try simp at this); omega)
      rw [HS.out]
      have ac_A0_1 := fun o => cell_b (c_A0_1) (below_alloc _ o)
      have bc_A0_1 := fun o o1 => cell_b (ac_A0_1 o) (below_alloc _ o1)
      have ac_A1_1 := fun o => cell_b (c_A1_1) (below_alloc _ o)
      have bc_A1_1 := fun o o1 => cell_b (ac_A1_1 o) (below_alloc _ o1)
      have ac_A2_1 := fun o => cell_b (c_A2_1) (below_alloc _ o)
      have bc_A2_1 := fun o o1 => cell_b (ac_A2_1 o) (below_alloc _ o1)
      have ac_R0_1 := fun o => cell_b (c_R0_1) (below_alloc _ o)
      have bc_R0_1 := fun o o1 => cell_b (ac_R0_1 o) (below_alloc _ o1)
      have ac_R1_1 := fun o => cell_b (c_R1_1) (below_alloc _ o)
      have bc_R1_1 := fun o o1 => cell_b (ac_R1_1 o) (below_alloc _ o1)
      have ac_R2_1 := fun o => cell_b (c_R2_1) (below_alloc _ o)
      have bc_R2_1 := fun o o1 => cell_b (ac_R2_1 o) (below_alloc _ o1)
      have af_R0_1 := fun o => frz_b (cell_lt (c_R0_1)) (f_R0_1) (below_alloc _ o)
      have bf_R0_1 := fun o o1 => frz_b (cell_lt (ac_R0_1 o)) (af_R0_1 o) (below_alloc _ o1)
      have af_R1_1 := fun o => frz_b (cell_lt (c_R1_1)) (f_R1_1) (below_alloc _ o)
      have bf_R1_1 := fun o o1 => frz_b (cell_lt (ac_R1_1 o)) (af_R1_1 o) (below_alloc _ o1)
      have af_R2_1 := fun o => frz_b (cell_lt (c_R2_1)) (f_R2_1) (below_alloc _ o)
      have bf_R2_1 := fun o o1 => frz_b (cell_lt (ac_R2_1 o)) (af_R2_1 o) (below_alloc _ o1)
      clear hb r_d_0 T_0
      go_wp2_with fail
      (with_reducible refine (S_l1Thread _ t).mono ?_)
      rintro e w9 ⟨rfl, rfl⟩
      rw [HT.out]
      go_wp2_with fail
      refine bodyPost_ret (v := .tuple #[.agg #[.int .i64 0, .int .i64 0, .slice none 0 0], .bool false, .bool false]) (by simp [results, Tryd.results40, go_sem, c_R0_1, c_R1_1, c_R2_1]) rfl ⟨0, 0, [], none, 0, _, false, rfl, ⟨_, rfl⟩, by simp, rdxb_nil _ _ _, ((((T_1.out).setCell (p := ⟨w.heap.size + 1, 0, none⟩) (by show w.heap.size ≤ w.heap.size + 1; omega) _).setCell (p := ⟨w.heap.size + 1, 1, none⟩) (by show w.heap.size ≤ w.heap.size + 1; omega) _).setCell (p := ⟨w.heap.size + 1, 2, none⟩) (by show w.heap.size ≤ w.heap.size + 1; omega) _)⟩
    by_cases hm : t ∈ xs.map Prod.fst
    · have HS : Hid (sval p q xs = true) := Lib.hid (by simpa using hs)
      obtain ⟨hq1, hq2, hp1, hp2, hl6⟩ := sval_in hs
      clear hs
      have HT : Hid (thr t = true) := Lib.hid (by simpa using ht)
      clear ht
      have h3 : 1 ≤ n := by omega
      have h4 : n ≤ q := by omega
      clear h1 h2
      obtain ⟨z, hz⟩ : ∃ z, atF (xs.map Prod.fst) t = z := ⟨_, rfl⟩
      have HZ := Lib.hid hz
      have hz0 : 0 ≤ z := by rw [← hz]; exact atF_nonneg.2 hm
      clear hz hm
      go_enter Tryd.func40, Tryd.ntmps40
      have T_0 : Hid (Below w.heap.size w w) := Lib.hid (Below.refl _ _)
      go_wp2_with fail
      (with_reducible refine (S_SemValid _ p q _ xs (rdxb_x (rdxb_b (rdxb_b (r_d_0.out) (below_alloc _ _)) (below_alloc _ _))) (by omega)).mono ?_)
      rintro e w1 ⟨rfl, hb⟩
      have c_A0_1 := cell_b (p := ⟨w.heap.size, 0, none⟩) (v := .int .i64 p) (by first | (simp; done) | (simp [World.cell?_alloc_past, World.cell?_alloc_at]; done)) hb
      have c_A1_1 := cell_b (p := ⟨w.heap.size, 1, none⟩) (v := .int .i64 q) (by first | (simp; done) | (simp [World.cell?_alloc_past, World.cell?_alloc_at]; done)) hb
      have c_A2_1 := cell_b (p := ⟨w.heap.size, 2, none⟩) (v := .slice a xs.length cap) (by first | (simp; done) | (simp [World.cell?_alloc_past, World.cell?_alloc_at]; done)) hb
      have c_R0_1 := cell_b (p := ⟨w.heap.size + 1, 0, none⟩) (v := .int .i64 0) (by first | (simp; done) | (simp [World.cell?_alloc_past, World.cell?_alloc_at]; done)) hb
      have f_R0_1 := frz_b (p := ⟨w.heap.size + 1, 0, none⟩) (by first | omega | (simp; done) | (simp; omega)) (show _ = false by first | (simp; done) | (simp [World.frozen?_alloc_past, World.frozen?_alloc_at]; done)) hb
      have c_R1_1 := cell_b (p := ⟨w.heap.size + 1, 1, none⟩) (v := .int .i64 0) (by first | (simp; done) | (simp [World.cell?_alloc_past, World.cell?_alloc_at]; done)) hb
      have f_R1_1 := frz_b (p := ⟨w.heap.size + 1, 1, none⟩) (by first | omega | (simp; done) | (simp; omega)) (show _ = false by first | (simp; done) | (simp [World.frozen?_alloc_past, World.frozen?_alloc_at]; done)) hb
      have c_R2_1 := cell_b (p := ⟨w.heap.size + 1, 2, none⟩) (v := .slice none 0 0) (by first | (simp; done) | (simp [World.cell?_alloc_past, World.cell?_alloc_at]; done)) hb
      have f_R2_1 := frz_b (p := ⟨w.heap.size + 1, 2, none⟩) (by first | omega | (simp; done) | (simp; omega)) (show _ = false by first | (simp; done) | (simp [World.frozen?_alloc_past, World.frozen?_alloc_at]; done)) hb
      have r_d_1 := Lib.hid (rdxb_b (rdxb_b (rdxb_b (r_d_0.out) (below_alloc _ _)) (below_alloc _ _)) hb)
      have T_1 := Lib.hid (below_trans (below_trans (below_trans (T_0.out) (below_alloc _ _)) (below_alloc _ _)) hb)
      have z_1 : w.heap.size + 2 ≤ w1.heap.size := (by have := hb.size; (try simp at this); omega)
      rw [HS.out]
      have ac_A0_1 := fun o => cell_b (c_A0_1) (below_alloc _ o)
      have bc_A0_1 := fun o o1 => cell_b (ac_A0_1 o) (below_alloc _ o1)
      have ac_A1_1 := fun o => cell_b (c_A1_1) (below_alloc _ o)
      have bc_A1_1 := fun o o1 => cell_b (ac_A1_1 o) (below_alloc _ o1)
      have ac_A2_1 := fun o => cell_b (c_A2_1) (below_alloc _ o)
      have bc_A2_1 := fun o o1 => cell_b (ac_A2_1 o) (below_alloc _ o1)
      have ac_R0_1 := fun o => cell_b (c_R0_1) (below_alloc _ o)
      have bc_R0_1 := fun o o1 => cell_b (ac_R0_1 o) (below_alloc _ o1)
      have ac_R1_1 := fun o => cell_b (c_R1_1) (below_alloc _ o)
      have bc_R1_1 := fun o o1 => cell_b (ac_R1_1 o) (below_alloc _ o1)
      have ac_R2_1 := fun o => cell_b (c_R2_1) (below_alloc _ o)
      have bc_R2_1 := fun o o1 => cell_b (ac_R2_1 o) (below_alloc _ o1)
      have af_R0_1 := fun o => frz_b (cell_lt (c_R0_1)) (f_R0_1) (below_alloc _ o)
      have bf_R0_1 := fun o o1 => frz_b (cell_lt (ac_R0_1 o)) (af_R0_1 o) (below_alloc _ o1)
      have af_R1_1 := fun o => frz_b (cell_lt (c_R1_1)) (f_R1_1) (below_alloc _ o)
      have bf_R1_1 := fun o o1 => frz_b (cell_lt (ac_R1_1 o)) (af_R1_1 o) (below_alloc _ o1)
      have af_R2_1 := fun o => frz_b (cell_lt (c_R2_1)) (f_R2_1) (below_alloc _ o)
      have bf_R2_1 := fun o o1 => frz_b (cell_lt (ac_R2_1 o)) (af_R2_1 o) (below_alloc _ o1)
      clear hb r_d_0 T_0
      go_wp2_with fail
      (with_reducible refine (S_l1Thread _ t).mono ?_)
      rintro e w9 ⟨rfl, rfl⟩
      rw [HT.out]
      go_wp2_with fail
      (with_reducible refine (S_l1Find _ _ xs t (rdxb_x (r_d_1.out)) (by omega)).mono ?_)
      rintro e w9 ⟨rfl, rfl⟩
      rw [HZ.out]
      go_wp2_with fail
      refine bodyPost_ret (v := .tuple #[.agg #[.int .i64 0, .int .i64 0, .slice none 0 0], .bool false, .bool false]) (by simp [results, Tryd.results40, go_sem, c_R0_1, c_R1_1, c_R2_1]) rfl ⟨0, 0, [], none, 0, _, false, rfl, ⟨_, rfl⟩, by simp, rdxb_nil _ _ _, ((((T_1.out).setCell (p := ⟨w.heap.size + 1, 0, none⟩) (by show w.heap.size ≤ w.heap.size + 1; omega) _).setCell (p := ⟨w.heap.size + 1, 1, none⟩) (by show w.heap.size ≤ w.heap.size + 1; omega) _).setCell (p := ⟨w.heap.size + 1, 2, none⟩) (by show w.heap.size ≤ w.heap.size + 1; omega) _)⟩
    by_cases he : xs.length = 0
    · by_cases hnp : n ≤ p
      · have HS : Hid (sval p q xs = true) := Lib.hid (by simpa using hs)
        obtain ⟨hq1, hq2, hp1, hp2, hl6⟩ := sval_in hs
        clear hs
        have HT : Hid (thr t = true) := Lib.hid (by simpa using ht)
        clear ht
        have h3 : 1 ≤ n := by omega
        have h4 : n ≤ q := by omega
        clear h1 h2
        obtain ⟨z, hz⟩ : ∃ z, atF (xs.map Prod.fst) t = z := ⟨_, rfl⟩
        have HZ := Lib.hid hz
        have hz0 : z < 0 := by rw [← hz]; exact atF_neg.2 hm
        clear hz hm
        have he0 : ((xs.length : Int) == 0) = true := by simpa using he
        clear he
        go_enter Tryd.func40, Tryd.ntmps40
        have T_0 : Hid (Below w.heap.size w w) := Lib.hid (Below.refl _ _)
        go_wp2_with fail
        (with_reducible refine (S_SemValid _ p q _ xs (rdxb_x (rdxb_b (rdxb_b (r_d_0.out) (below_alloc _ _)) (below_alloc _ _))) (by omega)).mono ?_)
        rintro e w1 ⟨rfl, hb⟩
        have c_A0_1 := cell_b (p := ⟨w.heap.size, 0, none⟩) (v := .int .i64 p) (by first | (simp; done) | (simp [World.cell?_alloc_past, World.cell?_alloc_at]; done)) hb
        have c_A1_1 := cell_b (p := ⟨w.heap.size, 1, none⟩) (v := .int .i64 q) (by first | (simp; done) | (simp [World.cell?_alloc_past, World.cell?_alloc_at]; done)) hb
        have c_A2_1 := cell_b (p := ⟨w.heap.size, 2, none⟩) (v := .slice a xs.length cap) (by first | (simp; done) | (simp [World.cell?_alloc_past, World.cell?_alloc_at]; done)) hb
        have c_R0_1 := cell_b (p := ⟨w.heap.size + 1, 0, none⟩) (v := .int .i64 0) (by first | (simp; done) | (simp [World.cell?_alloc_past, World.cell?_alloc_at]; done)) hb
        have f_R0_1 := frz_b (p := ⟨w.heap.size + 1, 0, none⟩) (by first | omega | (simp; done) | (simp; omega)) (show _ = false by first | (simp; done) | (simp [World.frozen?_alloc_past, World.frozen?_alloc_at]; done)) hb
        have c_R1_1 := cell_b (p := ⟨w.heap.size + 1, 1, none⟩) (v := .int .i64 0) (by first | (simp; done) | (simp [World.cell?_alloc_past, World.cell?_alloc_at]; done)) hb
        have f_R1_1 := frz_b (p := ⟨w.heap.size + 1, 1, none⟩) (by first | omega | (simp; done) | (simp; omega)) (show _ = false by first | (simp; done) | (simp [World.frozen?_alloc_past, World.frozen?_alloc_at]; done)) hb
        have c_R2_1 := cell_b (p := ⟨w.heap.size + 1, 2, none⟩) (v := .slice none 0 0) (by first | (simp; done) | (simp [World.cell?_alloc_past, World.cell?_alloc_at]; done)) hb
        have f_R2_1 := frz_b (p := ⟨w.heap.size + 1, 2, none⟩) (by first | omega | (simp; done) | (simp; omega)) (show _ = false by first | (simp; done) | (simp [World.frozen?_alloc_past, World.frozen?_alloc_at]; done)) hb
        have r_d_1 := Lib.hid (rdxb_b (rdxb_b (rdxb_b (r_d_0.out) (below_alloc _ _)) (below_alloc _ _)) hb)
        have T_1 := Lib.hid (below_trans (below_trans (below_trans (T_0.out) (below_alloc _ _)) (below_alloc _ _)) hb)
        have z_1 : w.heap.size + 2 ≤ w1.heap.size := (by have := hb.size; (try simp at this); omega)
        rw [HS.out]
        have ac_A0_1 := fun o => cell_b (c_A0_1) (below_alloc _ o)
        have bc_A0_1 := fun o o1 => cell_b (ac_A0_1 o) (below_alloc _ o1)
        have ac_A1_1 := fun o => cell_b (c_A1_1) (below_alloc _ o)
        have bc_A1_1 := fun o o1 => cell_b (ac_A1_1 o) (below_alloc _ o1)
        have ac_A2_1 := fun o => cell_b (c_A2_1) (below_alloc _ o)
        have bc_A2_1 := fun o o1 => cell_b (ac_A2_1 o) (below_alloc _ o1)
        have ac_R0_1 := fun o => cell_b (c_R0_1) (below_alloc _ o)
        have bc_R0_1 := fun o o1 => cell_b (ac_R0_1 o) (below_alloc _ o1)
        have ac_R1_1 := fun o => cell_b (c_R1_1) (below_alloc _ o)
        have bc_R1_1 := fun o o1 => cell_b (ac_R1_1 o) (below_alloc _ o1)
        have ac_R2_1 := fun o => cell_b (c_R2_1) (below_alloc _ o)
        have bc_R2_1 := fun o o1 => cell_b (ac_R2_1 o) (below_alloc _ o1)
        have af_R0_1 := fun o => frz_b (cell_lt (c_R0_1)) (f_R0_1) (below_alloc _ o)
        have bf_R0_1 := fun o o1 => frz_b (cell_lt (ac_R0_1 o)) (af_R0_1 o) (below_alloc _ o1)
        have af_R1_1 := fun o => frz_b (cell_lt (c_R1_1)) (f_R1_1) (below_alloc _ o)
        have bf_R1_1 := fun o o1 => frz_b (cell_lt (ac_R1_1 o)) (af_R1_1 o) (below_alloc _ o1)
        have af_R2_1 := fun o => frz_b (cell_lt (c_R2_1)) (f_R2_1) (below_alloc _ o)
        have bf_R2_1 := fun o o1 => frz_b (cell_lt (ac_R2_1 o)) (af_R2_1 o) (below_alloc _ o1)
        clear hb r_d_0 T_0
        go_wp2_with fail
        (with_reducible refine (S_l1Thread _ t).mono ?_)
        rintro e w9 ⟨rfl, rfl⟩
        rw [HT.out]
        go_wp2_with fail
        (with_reducible refine (S_l1Find _ _ xs t (rdxb_x (r_d_1.out)) (by omega)).mono ?_)
        rintro e w9 ⟨rfl, rfl⟩
        rw [HZ.out]
        go_wp2_with fail
        (with_reducible refine (S_l1Copy _ p q _ xs (r_d_1.out) (by omega)).mono ?_)
        rintro e w2 ⟨a0, cap0, rfl, hd, hb⟩
        have c_A0_2 := cell_b (c_A0_1) hb
        have c_A1_2 := cell_b (c_A1_1) hb
        have c_A2_2 := cell_b (c_A2_1) hb
        have c_R0_2 := cell_b (c_R0_1) hb
        have c_R1_2 := cell_b (c_R1_1) hb
        have c_R2_2 := cell_b (c_R2_1) hb
        have f_R0_2 := frz_b (cell_lt (c_R0_1)) (f_R0_1) hb
        have f_R1_2 := frz_b (cell_lt (c_R1_1)) (f_R1_1) hb
        have f_R2_2 := frz_b (cell_lt (c_R2_1)) (f_R2_1) hb
        have r_d_2 := Lib.hid (rdxb_b (r_d_1.out) hb)
        have T_2 := Lib.hid (below_trans (T_1.out) hb)
        have z_2 : w1.heap.size ≤ w2.heap.size := (by have := hb.size; (try simp at this); omega)
        have o_e_2 := Lib.hid (own_base hd (show w1.heap.size ≤ _ by first | omega | (simp; done) | (simp; omega)))
        have lo_e := Lib.hid (own_lo o_e_2.out)
        have hi_e := Lib.hid (own_hi o_e_2.out)
        have ac_A0_2 := fun o => cell_b (c_A0_2) (below_alloc _ o)
        have bc_A0_2 := fun o o1 => cell_b (ac_A0_2 o) (below_alloc _ o1)
        have ac_A1_2 := fun o => cell_b (c_A1_2) (below_alloc _ o)
        have bc_A1_2 := fun o o1 => cell_b (ac_A1_2 o) (below_alloc _ o1)
        have ac_A2_2 := fun o => cell_b (c_A2_2) (below_alloc _ o)
        have bc_A2_2 := fun o o1 => cell_b (ac_A2_2 o) (below_alloc _ o1)
        have ac_R0_2 := fun o => cell_b (c_R0_2) (below_alloc _ o)
        have bc_R0_2 := fun o o1 => cell_b (ac_R0_2 o) (below_alloc _ o1)
        have ac_R1_2 := fun o => cell_b (c_R1_2) (below_alloc _ o)
        have bc_R1_2 := fun o o1 => cell_b (ac_R1_2 o) (below_alloc _ o1)
        have ac_R2_2 := fun o => cell_b (c_R2_2) (below_alloc _ o)
        have bc_R2_2 := fun o o1 => cell_b (ac_R2_2 o) (below_alloc _ o1)
        have af_R0_2 := fun o => frz_b (cell_lt (c_R0_2)) (f_R0_2) (below_alloc _ o)
        have bf_R0_2 := fun o o1 => frz_b (cell_lt (ac_R0_2 o)) (af_R0_2 o) (below_alloc _ o1)
        have af_R1_2 := fun o => frz_b (cell_lt (c_R1_2)) (f_R1_2) (below_alloc _ o)
        have bf_R1_2 := fun o o1 => frz_b (cell_lt (ac_R1_2 o)) (af_R1_2 o) (below_alloc _ o1)
        have af_R2_2 := fun o => frz_b (cell_lt (c_R2_2)) (f_R2_2) (below_alloc _ o)
        have bf_R2_2 := fun o o1 => frz_b (cell_lt (ac_R2_2 o)) (af_R2_2 o) (below_alloc _ o1)
        clear hb c_A0_1 c_A1_1 c_A2_1 c_R0_1 c_R1_1 c_R2_1 f_R0_1 f_R1_1 f_R2_1 r_d_1 T_1 ac_A0_1 bc_A0_1 ac_A1_1 bc_A1_1 ac_A2_1 bc_A2_1 ac_R0_1 bc_R0_1 ac_R1_1 bc_R1_1 ac_R2_1 bc_R2_1 af_R0_1 bf_R0_1 af_R1_1 bf_R1_1 af_R2_1 bf_R2_1 hd
        clear r_d_2 lr_d hr_d
        go_wp2_with fail
        refine bodyPost_ret (v := .tuple #[.agg #[.int .i64 (p - n), .int .i64 q, .slice a0 xs.length cap0], .bool true, .bool true]) (by simp [results, Tryd.results40, go_sem, ac_R0_2, ac_R1_2, ac_R2_2]) rfl ⟨p - n, q, xs, a0, cap0, _, true, rfl, ⟨_, rfl⟩, by omega, rdxb_mono (own_rdxb (own_set (p := ⟨w.heap.size + 1, 2, none⟩) (own_set (p := ⟨w.heap.size + 1, 1, none⟩) (own_set (p := ⟨w.heap.size + 1, 0, none⟩) (own_below (o_e_2.out) (below_alloc _ _)) (fun g h => by have h1 := lo_e.out g h; have h2 := hi_e.out g h; show g ≠ w.heap.size + 1; omega) _) (fun g h => by have h1 := lo_e.out g h; have h2 := hi_e.out g h; show g ≠ w.heap.size + 1; omega) _) (fun g h => by have h1 := lo_e.out g h; have h2 := hi_e.out g h; show g ≠ w.heap.size + 1; omega) _)) (by omega), ((((below_trans (T_2.out) (below_alloc _ _)).setCell (p := ⟨w.heap.size + 1, 0, none⟩) (by show w.heap.size ≤ w.heap.size + 1; omega) _).setCell (p := ⟨w.heap.size + 1, 1, none⟩) (by show w.heap.size ≤ w.heap.size + 1; omega) _).setCell (p := ⟨w.heap.size + 1, 2, none⟩) (by show w.heap.size ≤ w.heap.size + 1; omega) _)⟩
      · have HS : Hid (sval p q xs = true) := Lib.hid (by simpa using hs)
        obtain ⟨hq1, hq2, hp1, hp2, hl6⟩ := sval_in hs
        clear hs
        have HT : Hid (thr t = true) := Lib.hid (by simpa using ht)
        clear ht
        have h3 : 1 ≤ n := by omega
        have h4 : n ≤ q := by omega
        clear h1 h2
        obtain ⟨z, hz⟩ : ∃ z, atF (xs.map Prod.fst) t = z := ⟨_, rfl⟩
        have HZ := Lib.hid hz
        have hz0 : z < 0 := by rw [← hz]; exact atF_neg.2 hm
        clear hz hm
        have he0 : ((xs.length : Int) == 0) = true := by simpa using he
        clear he
        go_enter Tryd.func40, Tryd.ntmps40
        have T_0 : Hid (Below w.heap.size w w) := Lib.hid (Below.refl _ _)
        go_wp2_with fail
        (with_reducible refine (S_SemValid _ p q _ xs (rdxb_x (rdxb_b (rdxb_b (r_d_0.out) (below_alloc _ _)) (below_alloc _ _))) (by omega)).mono ?_)
        rintro e w1 ⟨rfl, hb⟩
        have c_A0_1 := cell_b (p := ⟨w.heap.size, 0, none⟩) (v := .int .i64 p) (by first | (simp; done) | (simp [World.cell?_alloc_past, World.cell?_alloc_at]; done)) hb
        have c_A1_1 := cell_b (p := ⟨w.heap.size, 1, none⟩) (v := .int .i64 q) (by first | (simp; done) | (simp [World.cell?_alloc_past, World.cell?_alloc_at]; done)) hb
        have c_A2_1 := cell_b (p := ⟨w.heap.size, 2, none⟩) (v := .slice a xs.length cap) (by first | (simp; done) | (simp [World.cell?_alloc_past, World.cell?_alloc_at]; done)) hb
        have c_R0_1 := cell_b (p := ⟨w.heap.size + 1, 0, none⟩) (v := .int .i64 0) (by first | (simp; done) | (simp [World.cell?_alloc_past, World.cell?_alloc_at]; done)) hb
        have f_R0_1 := frz_b (p := ⟨w.heap.size + 1, 0, none⟩) (by first | omega | (simp; done) | (simp; omega)) (show _ = false by first | (simp; done) | (simp [World.frozen?_alloc_past, World.frozen?_alloc_at]; done)) hb
        have c_R1_1 := cell_b (p := ⟨w.heap.size + 1, 1, none⟩) (v := .int .i64 0) (by first | (simp; done) | (simp [World.cell?_alloc_past, World.cell?_alloc_at]; done)) hb
        have f_R1_1 := frz_b (p := ⟨w.heap.size + 1, 1, none⟩) (by first | omega | (simp; done) | (simp; omega)) (show _ = false by first | (simp; done) | (simp [World.frozen?_alloc_past, World.frozen?_alloc_at]; done)) hb
        have c_R2_1 := cell_b (p := ⟨w.heap.size + 1, 2, none⟩) (v := .slice none 0 0) (by first | (simp; done) | (simp [World.cell?_alloc_past, World.cell?_alloc_at]; done)) hb
        have f_R2_1 := frz_b (p := ⟨w.heap.size + 1, 2, none⟩) (by first | omega | (simp; done) | (simp; omega)) (show _ = false by first | (simp; done) | (simp [World.frozen?_alloc_past, World.frozen?_alloc_at]; done)) hb
        have r_d_1 := Lib.hid (rdxb_b (rdxb_b (rdxb_b (r_d_0.out) (below_alloc _ _)) (below_alloc _ _)) hb)
        have T_1 := Lib.hid (below_trans (below_trans (below_trans (T_0.out) (below_alloc _ _)) (below_alloc _ _)) hb)
        have z_1 : w.heap.size + 2 ≤ w1.heap.size := (by have := hb.size; (try simp at this); omega)
        rw [HS.out]
        have ac_A0_1 := fun o => cell_b (c_A0_1) (below_alloc _ o)
        have bc_A0_1 := fun o o1 => cell_b (ac_A0_1 o) (below_alloc _ o1)
        have ac_A1_1 := fun o => cell_b (c_A1_1) (below_alloc _ o)
        have bc_A1_1 := fun o o1 => cell_b (ac_A1_1 o) (below_alloc _ o1)
        have ac_A2_1 := fun o => cell_b (c_A2_1) (below_alloc _ o)
        have bc_A2_1 := fun o o1 => cell_b (ac_A2_1 o) (below_alloc _ o1)
        have ac_R0_1 := fun o => cell_b (c_R0_1) (below_alloc _ o)
        have bc_R0_1 := fun o o1 => cell_b (ac_R0_1 o) (below_alloc _ o1)
        have ac_R1_1 := fun o => cell_b (c_R1_1) (below_alloc _ o)
        have bc_R1_1 := fun o o1 => cell_b (ac_R1_1 o) (below_alloc _ o1)
        have ac_R2_1 := fun o => cell_b (c_R2_1) (below_alloc _ o)
        have bc_R2_1 := fun o o1 => cell_b (ac_R2_1 o) (below_alloc _ o1)
        have af_R0_1 := fun o => frz_b (cell_lt (c_R0_1)) (f_R0_1) (below_alloc _ o)
        have bf_R0_1 := fun o o1 => frz_b (cell_lt (ac_R0_1 o)) (af_R0_1 o) (below_alloc _ o1)
        have af_R1_1 := fun o => frz_b (cell_lt (c_R1_1)) (f_R1_1) (below_alloc _ o)
        have bf_R1_1 := fun o o1 => frz_b (cell_lt (ac_R1_1 o)) (af_R1_1 o) (below_alloc _ o1)
        have af_R2_1 := fun o => frz_b (cell_lt (c_R2_1)) (f_R2_1) (below_alloc _ o)
        have bf_R2_1 := fun o o1 => frz_b (cell_lt (ac_R2_1 o)) (af_R2_1 o) (below_alloc _ o1)
        clear hb r_d_0 T_0
        go_wp2_with fail
        (with_reducible refine (S_l1Thread _ t).mono ?_)
        rintro e w9 ⟨rfl, rfl⟩
        rw [HT.out]
        go_wp2_with fail
        (with_reducible refine (S_l1Find _ _ xs t (rdxb_x (r_d_1.out)) (by omega)).mono ?_)
        rintro e w9 ⟨rfl, rfl⟩
        rw [HZ.out]
        go_wp2_with fail
        (with_reducible refine (S_l1Copy _ p q _ xs (r_d_1.out) (by omega)).mono ?_)
        rintro e w2 ⟨a0, cap0, rfl, hd, hb⟩
        have c_A0_2 := cell_b (c_A0_1) hb
        have c_A1_2 := cell_b (c_A1_1) hb
        have c_A2_2 := cell_b (c_A2_1) hb
        have c_R0_2 := cell_b (c_R0_1) hb
        have c_R1_2 := cell_b (c_R1_1) hb
        have c_R2_2 := cell_b (c_R2_1) hb
        have f_R0_2 := frz_b (cell_lt (c_R0_1)) (f_R0_1) hb
        have f_R1_2 := frz_b (cell_lt (c_R1_1)) (f_R1_1) hb
        have f_R2_2 := frz_b (cell_lt (c_R2_1)) (f_R2_1) hb
        have r_d_2 := Lib.hid (rdxb_b (r_d_1.out) hb)
        have T_2 := Lib.hid (below_trans (T_1.out) hb)
        have z_2 : w1.heap.size ≤ w2.heap.size := (by have := hb.size; (try simp at this); omega)
        have o_e_2 := Lib.hid (own_base hd (show w1.heap.size ≤ _ by first | omega | (simp; done) | (simp; omega)))
        have lo_e := Lib.hid (own_lo o_e_2.out)
        have hi_e := Lib.hid (own_hi o_e_2.out)
        have ac_A0_2 := fun o => cell_b (c_A0_2) (below_alloc _ o)
        have bc_A0_2 := fun o o1 => cell_b (ac_A0_2 o) (below_alloc _ o1)
        have ac_A1_2 := fun o => cell_b (c_A1_2) (below_alloc _ o)
        have bc_A1_2 := fun o o1 => cell_b (ac_A1_2 o) (below_alloc _ o1)
        have ac_A2_2 := fun o => cell_b (c_A2_2) (below_alloc _ o)
        have bc_A2_2 := fun o o1 => cell_b (ac_A2_2 o) (below_alloc _ o1)
        have ac_R0_2 := fun o => cell_b (c_R0_2) (below_alloc _ o)
        have bc_R0_2 := fun o o1 => cell_b (ac_R0_2 o) (below_alloc _ o1)
        have ac_R1_2 := fun o => cell_b (c_R1_2) (below_alloc _ o)
        have bc_R1_2 := fun o o1 => cell_b (ac_R1_2 o) (below_alloc _ o1)
        have ac_R2_2 := fun o => cell_b (c_R2_2) (below_alloc _ o)
        have bc_R2_2 := fun o o1 => cell_b (ac_R2_2 o) (below_alloc _ o1)
        have af_R0_2 := fun o => frz_b (cell_lt (c_R0_2)) (f_R0_2) (below_alloc _ o)
        have bf_R0_2 := fun o o1 => frz_b (cell_lt (ac_R0_2 o)) (af_R0_2 o) (below_alloc _ o1)
        have af_R1_2 := fun o => frz_b (cell_lt (c_R1_2)) (f_R1_2) (below_alloc _ o)
        have bf_R1_2 := fun o o1 => frz_b (cell_lt (ac_R1_2 o)) (af_R1_2 o) (below_alloc _ o1)
        have af_R2_2 := fun o => frz_b (cell_lt (c_R2_2)) (f_R2_2) (below_alloc _ o)
        have bf_R2_2 := fun o o1 => frz_b (cell_lt (ac_R2_2 o)) (af_R2_2 o) (below_alloc _ o1)
        clear hb c_A0_1 c_A1_1 c_A2_1 c_R0_1 c_R1_1 c_R2_1 f_R0_1 f_R1_1 f_R2_1 r_d_1 T_1 ac_A0_1 bc_A0_1 ac_A1_1 bc_A1_1 ac_A2_1 bc_A2_1 ac_R0_1 bc_R0_1 ac_R1_1 bc_R1_1 ac_R2_1 bc_R2_1 af_R0_1 bf_R0_1 af_R1_1 bf_R1_1 af_R2_1 bf_R2_1 hd
        clear r_d_2 lr_d hr_d
        have tok3 : True := trivial
        go_wp2_with (first | (at_builtin; have _t := tok3; refine wpList_append_rdx (by rfl) _ _ 27 rfl (w1.heap.size) 42 2 16 (.agg #[.int .i64 0, .int .i64 0]) j0 Tryd.underlying27 hj hy0 hy1 hy2 rfl (by decide) (.slice a0 xs.length cap0) ((xs).length) (prs (xs)) rfl (own_below (own_below (o_e_2.out) (below_alloc _ _)) (below_alloc _ _)) _ _ _ (prs ([(t, n)])) rfl (rdx_lit1 _ _ _ _ (w2.heap.size + 1) (by first | rfl | (simp; done))) prs_one (by first | (unfold maxLen; omega) | (unfold maxLen; simp; omega)) (by first | omega | (simp; omega)) (by first | omega | (simp; done) | (simp; omega)) ?_; intro v3 w3 hown hgr hloc; clear tok3; have ho : w3.ownsRow (w1.heap.size) 42 2 v3 ((xs).length + 1) (prs (xs ++ [(t, n)])) := (by rw [prs_append]; exact hown); obtain ⟨a1, cap1, hv⟩ := own_shape ho; subst hv; have iv_f : Hid (∀ g, (Value.slice a1 ((xs).length + 1) cap1).ownBlock = some g → (w1.heap.size ≤ g ∧ g < w2.heap.size) ∨ (w2.heap.size + 2 ≤ g ∧ g < w3.heap.size)) := Lib.hid (fun g h => by have h9 := hgr.size; have h7 := own_hi ho g h; rcases hloc with h8 | h8 <;> rw [h8] at h <;> first | (have h1 := lo_e.out g h; have h2 := hi_e.out g h; (try simp at h9); omega) | (injection h with h; (try simp at h9); (try simp at h); omega)); have c_A0_3 := cell_gr (cell_b (cell_b (c_A0_2) (below_alloc _ _)) (below_alloc _ _)) hgr (fun g h => by have h1 := lo_e.out g h; have h2 := hi_e.out g h; show w.heap.size ≠ g; omega); have c_A1_3 := cell_gr (cell_b (cell_b (c_A1_2) (below_alloc _ _)) (below_alloc _ _)) hgr (fun g h => by have h1 := lo_e.out g h; have h2 := hi_e.out g h; show w.heap.size ≠ g; omega); have c_A2_3 := cell_gr (cell_b (cell_b (c_A2_2) (below_alloc _ _)) (below_alloc _ _)) hgr (fun g h => by have h1 := lo_e.out g h; have h2 := hi_e.out g h; show w.heap.size ≠ g; omega); have c_R0_3 := cell_gr (cell_b (cell_b (c_R0_2) (below_alloc _ _)) (below_alloc _ _)) hgr (fun g h => by have h1 := lo_e.out g h; have h2 := hi_e.out g h; show w.heap.size + 1 ≠ g; omega); have c_R1_3 := cell_gr (cell_b (cell_b (c_R1_2) (below_alloc _ _)) (below_alloc _ _)) hgr (fun g h => by have h1 := lo_e.out g h; have h2 := hi_e.out g h; show w.heap.size + 1 ≠ g; omega); have c_R2_3 := cell_gr (cell_b (cell_b (c_R2_2) (below_alloc _ _)) (below_alloc _ _)) hgr (fun g h => by have h1 := lo_e.out g h; have h2 := hi_e.out g h; show w.heap.size + 1 ≠ g; omega); have f_R0_3 := (frz_gr (p := ⟨w.heap.size + 1, 0, none⟩) (cell_lt (cell_b (cell_b (c_R0_2) (below_alloc _ _)) (below_alloc _ _))) hgr (fun g h => by have h1 := lo_e.out g h; have h2 := hi_e.out g h; show w.heap.size + 1 ≠ g; omega)).trans (frz_b (cell_lt (cell_b (c_R0_2) (below_alloc _ _))) (frz_b (cell_lt (c_R0_2)) (f_R0_2) (below_alloc _ _)) (below_alloc _ _)); have f_R1_3 := (frz_gr (p := ⟨w.heap.size + 1, 1, none⟩) (cell_lt (cell_b (cell_b (c_R1_2) (below_alloc _ _)) (below_alloc _ _))) hgr (fun g h => by have h1 := lo_e.out g h; have h2 := hi_e.out g h; show w.heap.size + 1 ≠ g; omega)).trans (frz_b (cell_lt (cell_b (c_R1_2) (below_alloc _ _))) (frz_b (cell_lt (c_R1_2)) (f_R1_2) (below_alloc _ _)) (below_alloc _ _)); have f_R2_3 := (frz_gr (p := ⟨w.heap.size + 1, 2, none⟩) (cell_lt (cell_b (cell_b (c_R2_2) (below_alloc _ _)) (below_alloc _ _))) hgr (fun g h => by have h1 := lo_e.out g h; have h2 := hi_e.out g h; show w.heap.size + 1 ≠ g; omega)).trans (frz_b (cell_lt (cell_b (c_R2_2) (below_alloc _ _))) (frz_b (cell_lt (c_R2_2)) (f_R2_2) (below_alloc _ _)) (below_alloc _ _)); have c_O0_3 := cell_gr (p := ⟨w2.heap.size, 0, none⟩) (v := .int .i64 p) (by first | (simp; done) | (simp [World.cell?_alloc_past, World.cell?_alloc_at]; done)) hgr (fun g h => by have h1 := lo_e.out g h; have h2 := hi_e.out g h; show w2.heap.size ≠ g; omega); have f_O0_3 := (frz_gr (p := ⟨w2.heap.size, 0, none⟩) (by first | omega | (simp; done) | (simp; omega)) hgr (fun g h => by have h1 := lo_e.out g h; have h2 := hi_e.out g h; show w2.heap.size ≠ g; omega)).trans (show _ = false by first | (simp; done) | (simp [World.frozen?_alloc_past, World.frozen?_alloc_at]; done)); have c_O1_3 := cell_gr (p := ⟨w2.heap.size, 1, none⟩) (v := .int .i64 q) (by first | (simp; done) | (simp [World.cell?_alloc_past, World.cell?_alloc_at]; done)) hgr (fun g h => by have h1 := lo_e.out g h; have h2 := hi_e.out g h; show w2.heap.size ≠ g; omega); have f_O1_3 := (frz_gr (p := ⟨w2.heap.size, 1, none⟩) (by first | omega | (simp; done) | (simp; omega)) hgr (fun g h => by have h1 := lo_e.out g h; have h2 := hi_e.out g h; show w2.heap.size ≠ g; omega)).trans (show _ = false by first | (simp; done) | (simp [World.frozen?_alloc_past, World.frozen?_alloc_at]; done)); have c_O2_3 := cell_gr (p := ⟨w2.heap.size, 2, none⟩) (v := .slice a0 xs.length cap0) (by first | (simp; done) | (simp [World.cell?_alloc_past, World.cell?_alloc_at]; done)) hgr (fun g h => by have h1 := lo_e.out g h; have h2 := hi_e.out g h; show w2.heap.size ≠ g; omega); have f_O2_3 := (frz_gr (p := ⟨w2.heap.size, 2, none⟩) (by first | omega | (simp; done) | (simp; omega)) hgr (fun g h => by have h1 := lo_e.out g h; have h2 := hi_e.out g h; show w2.heap.size ≠ g; omega)).trans (show _ = false by first | (simp; done) | (simp [World.frozen?_alloc_past, World.frozen?_alloc_at]; done)); have T_3 := Lib.hid (below_gr (below_trans (below_trans (T_2.out) (below_alloc _ _)) (below_alloc _ _)) (by first | omega | (simp; done) | (simp; omega)) hgr (fun g h => by have h1 := lo_e.out g h; have h2 := hi_e.out g h; omega)); have z_3 : w2.heap.size + 2 ≤ w3.heap.size := (by have := hgr.size; (try simp at this); omega); have o_f_3 := Lib.hid ho; have lo_f := Lib.hid (own_lo o_f_3.out); have hi_f := Lib.hid (own_hi o_f_3.out); have ac_A0_3 := fun o => cell_b (c_A0_3) (below_alloc _ o); have bc_A0_3 := fun o o1 => cell_b (ac_A0_3 o) (below_alloc _ o1); have ac_A1_3 := fun o => cell_b (c_A1_3) (below_alloc _ o); have bc_A1_3 := fun o o1 => cell_b (ac_A1_3 o) (below_alloc _ o1); have ac_A2_3 := fun o => cell_b (c_A2_3) (below_alloc _ o); have bc_A2_3 := fun o o1 => cell_b (ac_A2_3 o) (below_alloc _ o1); have ac_R0_3 := fun o => cell_b (c_R0_3) (below_alloc _ o); have bc_R0_3 := fun o o1 => cell_b (ac_R0_3 o) (below_alloc _ o1); have ac_R1_3 := fun o => cell_b (c_R1_3) (below_alloc _ o); have bc_R1_3 := fun o o1 => cell_b (ac_R1_3 o) (below_alloc _ o1); have ac_R2_3 := fun o => cell_b (c_R2_3) (below_alloc _ o); have bc_R2_3 := fun o o1 => cell_b (ac_R2_3 o) (below_alloc _ o1); have ac_O0_3 := fun o => cell_b (c_O0_3) (below_alloc _ o); have bc_O0_3 := fun o o1 => cell_b (ac_O0_3 o) (below_alloc _ o1); have ac_O1_3 := fun o => cell_b (c_O1_3) (below_alloc _ o); have bc_O1_3 := fun o o1 => cell_b (ac_O1_3 o) (below_alloc _ o1); have ac_O2_3 := fun o => cell_b (c_O2_3) (below_alloc _ o); have bc_O2_3 := fun o o1 => cell_b (ac_O2_3 o) (below_alloc _ o1); have af_R0_3 := fun o => frz_b (cell_lt (c_R0_3)) (f_R0_3) (below_alloc _ o); have bf_R0_3 := fun o o1 => frz_b (cell_lt (ac_R0_3 o)) (af_R0_3 o) (below_alloc _ o1); have af_R1_3 := fun o => frz_b (cell_lt (c_R1_3)) (f_R1_3) (below_alloc _ o); have bf_R1_3 := fun o o1 => frz_b (cell_lt (ac_R1_3 o)) (af_R1_3 o) (below_alloc _ o1); have af_R2_3 := fun o => frz_b (cell_lt (c_R2_3)) (f_R2_3) (below_alloc _ o); have bf_R2_3 := fun o o1 => frz_b (cell_lt (ac_R2_3 o)) (af_R2_3 o) (below_alloc _ o1); have af_O0_3 := fun o => frz_b (cell_lt (c_O0_3)) (f_O0_3) (below_alloc _ o); have bf_O0_3 := fun o o1 => frz_b (cell_lt (ac_O0_3 o)) (af_O0_3 o) (below_alloc _ o1); have af_O1_3 := fun o => frz_b (cell_lt (c_O1_3)) (f_O1_3) (below_alloc _ o); have bf_O1_3 := fun o o1 => frz_b (cell_lt (ac_O1_3 o)) (af_O1_3 o) (below_alloc _ o1); have af_O2_3 := fun o => frz_b (cell_lt (c_O2_3)) (f_O2_3) (below_alloc _ o); have bf_O2_3 := fun o o1 => frz_b (cell_lt (ac_O2_3 o)) (af_O2_3 o) (below_alloc _ o1); clear hgr c_A0_2 c_A1_2 c_A2_2 c_R0_2 c_R1_2 c_R2_2 f_R0_2 f_R1_2 f_R2_2 T_2 ac_A0_2 bc_A0_2 ac_A1_2 bc_A1_2 ac_A2_2 bc_A2_2 ac_R0_2 bc_R0_2 ac_R1_2 bc_R1_2 ac_R2_2 bc_R2_2 af_R0_2 bf_R0_2 af_R1_2 bf_R1_2 af_R2_2 bf_R2_2 hown ho hloc o_e_2 lo_e hi_e))
        go_wp2_with fail
        have e9 : (xs ++ [(t, n)]).length = xs.length + 1 := by simp
        have HF : Hid (RdWB (((((w3).setCell ⟨w2.heap.size, 2, none⟩ (.slice a1 (xs.length + 1) cap1)).setCell ⟨w.heap.size + 1, 0, none⟩ (.int .i64 p)).setCell ⟨w.heap.size + 1, 1, none⟩ (.int .i64 q)).setCell ⟨w.heap.size + 1, 2, none⟩ (.slice a1 (xs.length + 1) cap1)) w.heap.size (.slice a1 (xs ++ [(t, n)]).length cap1) (xs ++ [(t, n)])) := Lib.hid (by rw [e9]; exact rdxb_mono (own_rdxb (owp_eq (own_set (p := ⟨w.heap.size + 1, 2, none⟩) (own_set (p := ⟨w.heap.size + 1, 1, none⟩) (own_set (p := ⟨w.heap.size + 1, 0, none⟩) (own_set (p := ⟨w2.heap.size, 2, none⟩) (o_f_3.out) (fun g h => by have h1 := lo_f.out g h; have h2 := hi_f.out g h; have h5 := iv_f.out g h; show g ≠ w2.heap.size; omega) _) (fun g h => by have h1 := lo_f.out g h; have h2 := hi_f.out g h; have h5 := iv_f.out g h; show g ≠ w.heap.size + 1; omega) _) (fun g h => by have h1 := lo_f.out g h; have h2 := hi_f.out g h; have h5 := iv_f.out g h; show g ≠ w.heap.size + 1; omega) _) (fun g h => by have h1 := lo_f.out g h; have h2 := hi_f.out g h; have h5 := iv_f.out g h; show g ≠ w.heap.size + 1; omega) _) rfl e9.symm)) (by omega))
        refine bodyPost_ret (v := .tuple #[.agg #[.int .i64 p, .int .i64 q, .slice a1 (xs.length + 1) cap1], .bool false, .bool true]) (by simp [results, Tryd.results40, go_sem, c_R0_3, c_R1_3, c_R2_3]) rfl ⟨p, q, xs ++ [(t, n)], a1, cap1, _, true, by rw [e9], ⟨_, rfl⟩, by omega, HF.out, (((((T_3.out).setCell (p := ⟨w2.heap.size, 2, none⟩) (by show w.heap.size ≤ w2.heap.size; omega) _).setCell (p := ⟨w.heap.size + 1, 0, none⟩) (by show w.heap.size ≤ w.heap.size + 1; omega) _).setCell (p := ⟨w.heap.size + 1, 1, none⟩) (by show w.heap.size ≤ w.heap.size + 1; omega) _).setCell (p := ⟨w.heap.size + 1, 2, none⟩) (by show w.heap.size ≤ w.heap.size + 1; omega) _)⟩
    · have HS : Hid (sval p q xs = true) := Lib.hid (by simpa using hs)
      obtain ⟨hq1, hq2, hp1, hp2, hl6⟩ := sval_in hs
      clear hs
      have HT : Hid (thr t = true) := Lib.hid (by simpa using ht)
      clear ht
      have h3 : 1 ≤ n := by omega
      have h4 : n ≤ q := by omega
      clear h1 h2
      obtain ⟨z, hz⟩ : ∃ z, atF (xs.map Prod.fst) t = z := ⟨_, rfl⟩
      have HZ := Lib.hid hz
      have hz0 : z < 0 := by rw [← hz]; exact atF_neg.2 hm
      clear hz hm
      have he0 : ((xs.length : Int) == 0) = false := by simpa using he
      clear he
      go_enter Tryd.func40, Tryd.ntmps40
      have T_0 : Hid (Below w.heap.size w w) := Lib.hid (Below.refl _ _)
      go_wp2_with fail
      (with_reducible refine (S_SemValid _ p q _ xs (rdxb_x (rdxb_b (rdxb_b (r_d_0.out) (below_alloc _ _)) (below_alloc _ _))) (by omega)).mono ?_)
      rintro e w1 ⟨rfl, hb⟩
      have c_A0_1 := cell_b (p := ⟨w.heap.size, 0, none⟩) (v := .int .i64 p) (by first | (simp; done) | (simp [World.cell?_alloc_past, World.cell?_alloc_at]; done)) hb
      have c_A1_1 := cell_b (p := ⟨w.heap.size, 1, none⟩) (v := .int .i64 q) (by first | (simp; done) | (simp [World.cell?_alloc_past, World.cell?_alloc_at]; done)) hb
      have c_A2_1 := cell_b (p := ⟨w.heap.size, 2, none⟩) (v := .slice a xs.length cap) (by first | (simp; done) | (simp [World.cell?_alloc_past, World.cell?_alloc_at]; done)) hb
      have c_R0_1 := cell_b (p := ⟨w.heap.size + 1, 0, none⟩) (v := .int .i64 0) (by first | (simp; done) | (simp [World.cell?_alloc_past, World.cell?_alloc_at]; done)) hb
      have f_R0_1 := frz_b (p := ⟨w.heap.size + 1, 0, none⟩) (by first | omega | (simp; done) | (simp; omega)) (show _ = false by first | (simp; done) | (simp [World.frozen?_alloc_past, World.frozen?_alloc_at]; done)) hb
      have c_R1_1 := cell_b (p := ⟨w.heap.size + 1, 1, none⟩) (v := .int .i64 0) (by first | (simp; done) | (simp [World.cell?_alloc_past, World.cell?_alloc_at]; done)) hb
      have f_R1_1 := frz_b (p := ⟨w.heap.size + 1, 1, none⟩) (by first | omega | (simp; done) | (simp; omega)) (show _ = false by first | (simp; done) | (simp [World.frozen?_alloc_past, World.frozen?_alloc_at]; done)) hb
      have c_R2_1 := cell_b (p := ⟨w.heap.size + 1, 2, none⟩) (v := .slice none 0 0) (by first | (simp; done) | (simp [World.cell?_alloc_past, World.cell?_alloc_at]; done)) hb
      have f_R2_1 := frz_b (p := ⟨w.heap.size + 1, 2, none⟩) (by first | omega | (simp; done) | (simp; omega)) (show _ = false by first | (simp; done) | (simp [World.frozen?_alloc_past, World.frozen?_alloc_at]; done)) hb
      have r_d_1 := Lib.hid (rdxb_b (rdxb_b (rdxb_b (r_d_0.out) (below_alloc _ _)) (below_alloc _ _)) hb)
      have T_1 := Lib.hid (below_trans (below_trans (below_trans (T_0.out) (below_alloc _ _)) (below_alloc _ _)) hb)
      have z_1 : w.heap.size + 2 ≤ w1.heap.size := (by have := hb.size; (try simp at this); omega)
      rw [HS.out]
      have ac_A0_1 := fun o => cell_b (c_A0_1) (below_alloc _ o)
      have bc_A0_1 := fun o o1 => cell_b (ac_A0_1 o) (below_alloc _ o1)
      have ac_A1_1 := fun o => cell_b (c_A1_1) (below_alloc _ o)
      have bc_A1_1 := fun o o1 => cell_b (ac_A1_1 o) (below_alloc _ o1)
      have ac_A2_1 := fun o => cell_b (c_A2_1) (below_alloc _ o)
      have bc_A2_1 := fun o o1 => cell_b (ac_A2_1 o) (below_alloc _ o1)
      have ac_R0_1 := fun o => cell_b (c_R0_1) (below_alloc _ o)
      have bc_R0_1 := fun o o1 => cell_b (ac_R0_1 o) (below_alloc _ o1)
      have ac_R1_1 := fun o => cell_b (c_R1_1) (below_alloc _ o)
      have bc_R1_1 := fun o o1 => cell_b (ac_R1_1 o) (below_alloc _ o1)
      have ac_R2_1 := fun o => cell_b (c_R2_1) (below_alloc _ o)
      have bc_R2_1 := fun o o1 => cell_b (ac_R2_1 o) (below_alloc _ o1)
      have af_R0_1 := fun o => frz_b (cell_lt (c_R0_1)) (f_R0_1) (below_alloc _ o)
      have bf_R0_1 := fun o o1 => frz_b (cell_lt (ac_R0_1 o)) (af_R0_1 o) (below_alloc _ o1)
      have af_R1_1 := fun o => frz_b (cell_lt (c_R1_1)) (f_R1_1) (below_alloc _ o)
      have bf_R1_1 := fun o o1 => frz_b (cell_lt (ac_R1_1 o)) (af_R1_1 o) (below_alloc _ o1)
      have af_R2_1 := fun o => frz_b (cell_lt (c_R2_1)) (f_R2_1) (below_alloc _ o)
      have bf_R2_1 := fun o o1 => frz_b (cell_lt (ac_R2_1 o)) (af_R2_1 o) (below_alloc _ o1)
      clear hb r_d_0 T_0
      go_wp2_with fail
      (with_reducible refine (S_l1Thread _ t).mono ?_)
      rintro e w9 ⟨rfl, rfl⟩
      rw [HT.out]
      go_wp2_with fail
      (with_reducible refine (S_l1Find _ _ xs t (rdxb_x (r_d_1.out)) (by omega)).mono ?_)
      rintro e w9 ⟨rfl, rfl⟩
      rw [HZ.out]
      go_wp2_with fail
      (with_reducible refine (S_l1Copy _ p q _ xs (r_d_1.out) (by omega)).mono ?_)
      rintro e w2 ⟨a0, cap0, rfl, hd, hb⟩
      have c_A0_2 := cell_b (c_A0_1) hb
      have c_A1_2 := cell_b (c_A1_1) hb
      have c_A2_2 := cell_b (c_A2_1) hb
      have c_R0_2 := cell_b (c_R0_1) hb
      have c_R1_2 := cell_b (c_R1_1) hb
      have c_R2_2 := cell_b (c_R2_1) hb
      have f_R0_2 := frz_b (cell_lt (c_R0_1)) (f_R0_1) hb
      have f_R1_2 := frz_b (cell_lt (c_R1_1)) (f_R1_1) hb
      have f_R2_2 := frz_b (cell_lt (c_R2_1)) (f_R2_1) hb
      have r_d_2 := Lib.hid (rdxb_b (r_d_1.out) hb)
      have T_2 := Lib.hid (below_trans (T_1.out) hb)
      have z_2 : w1.heap.size ≤ w2.heap.size := (by have := hb.size; (try simp at this); omega)
      have o_e_2 := Lib.hid (own_base hd (show w1.heap.size ≤ _ by first | omega | (simp; done) | (simp; omega)))
      have lo_e := Lib.hid (own_lo o_e_2.out)
      have hi_e := Lib.hid (own_hi o_e_2.out)
      have ac_A0_2 := fun o => cell_b (c_A0_2) (below_alloc _ o)
      have bc_A0_2 := fun o o1 => cell_b (ac_A0_2 o) (below_alloc _ o1)
      have ac_A1_2 := fun o => cell_b (c_A1_2) (below_alloc _ o)
      have bc_A1_2 := fun o o1 => cell_b (ac_A1_2 o) (below_alloc _ o1)
      have ac_A2_2 := fun o => cell_b (c_A2_2) (below_alloc _ o)
      have bc_A2_2 := fun o o1 => cell_b (ac_A2_2 o) (below_alloc _ o1)
      have ac_R0_2 := fun o => cell_b (c_R0_2) (below_alloc _ o)
      have bc_R0_2 := fun o o1 => cell_b (ac_R0_2 o) (below_alloc _ o1)
      have ac_R1_2 := fun o => cell_b (c_R1_2) (below_alloc _ o)
      have bc_R1_2 := fun o o1 => cell_b (ac_R1_2 o) (below_alloc _ o1)
      have ac_R2_2 := fun o => cell_b (c_R2_2) (below_alloc _ o)
      have bc_R2_2 := fun o o1 => cell_b (ac_R2_2 o) (below_alloc _ o1)
      have af_R0_2 := fun o => frz_b (cell_lt (c_R0_2)) (f_R0_2) (below_alloc _ o)
      have bf_R0_2 := fun o o1 => frz_b (cell_lt (ac_R0_2 o)) (af_R0_2 o) (below_alloc _ o1)
      have af_R1_2 := fun o => frz_b (cell_lt (c_R1_2)) (f_R1_2) (below_alloc _ o)
      have bf_R1_2 := fun o o1 => frz_b (cell_lt (ac_R1_2 o)) (af_R1_2 o) (below_alloc _ o1)
      have af_R2_2 := fun o => frz_b (cell_lt (c_R2_2)) (f_R2_2) (below_alloc _ o)
      have bf_R2_2 := fun o o1 => frz_b (cell_lt (ac_R2_2 o)) (af_R2_2 o) (below_alloc _ o1)
      clear hb c_A0_1 c_A1_1 c_A2_1 c_R0_1 c_R1_1 c_R2_1 f_R0_1 f_R1_1 f_R2_1 r_d_1 T_1 ac_A0_1 bc_A0_1 ac_A1_1 bc_A1_1 ac_A2_1 bc_A2_1 ac_R0_1 bc_R0_1 ac_R1_1 bc_R1_1 ac_R2_1 bc_R2_1 af_R0_1 bf_R0_1 af_R1_1 bf_R1_1 af_R2_1 bf_R2_1 hd
      clear r_d_2 lr_d hr_d
      have tok3 : True := trivial
      go_wp2_with (first | (at_builtin; have _t := tok3; refine wpList_append_rdx (by rfl) _ _ 27 rfl (w1.heap.size) 42 2 16 (.agg #[.int .i64 0, .int .i64 0]) j0 Tryd.underlying27 hj hy0 hy1 hy2 rfl (by decide) (.slice a0 xs.length cap0) ((xs).length) (prs (xs)) rfl (own_below (own_below (o_e_2.out) (below_alloc _ _)) (below_alloc _ _)) _ _ _ (prs ([(t, n)])) rfl (rdx_lit1 _ _ _ _ (w2.heap.size + 1) (by first | rfl | (simp; done))) prs_one (by first | (unfold maxLen; omega) | (unfold maxLen; simp; omega)) (by first | omega | (simp; omega)) (by first | omega | (simp; done) | (simp; omega)) ?_; intro v3 w3 hown hgr hloc; clear tok3; have ho : w3.ownsRow (w1.heap.size) 42 2 v3 ((xs).length + 1) (prs (xs ++ [(t, n)])) := (by rw [prs_append]; exact hown); obtain ⟨a1, cap1, hv⟩ := own_shape ho; subst hv; have iv_f : Hid (∀ g, (Value.slice a1 ((xs).length + 1) cap1).ownBlock = some g → (w1.heap.size ≤ g ∧ g < w2.heap.size) ∨ (w2.heap.size + 2 ≤ g ∧ g < w3.heap.size)) := Lib.hid (fun g h => by have h9 := hgr.size; have h7 := own_hi ho g h; rcases hloc with h8 | h8 <;> rw [h8] at h <;> first | (have h1 := lo_e.out g h; have h2 := hi_e.out g h; (try simp at h9); omega) | (injection h with h; (try simp at h9); (try simp at h); omega)); have c_A0_3 := cell_gr (cell_b (cell_b (c_A0_2) (below_alloc _ _)) (below_alloc _ _)) hgr (fun g h => by have h1 := lo_e.out g h; have h2 := hi_e.out g h; show w.heap.size ≠ g; omega); have c_A1_3 := cell_gr (cell_b (cell_b (c_A1_2) (below_alloc _ _)) (below_alloc _ _)) hgr (fun g h => by have h1 := lo_e.out g h; have h2 := hi_e.out g h; show w.heap.size ≠ g; omega); have c_A2_3 := cell_gr (cell_b (cell_b (c_A2_2) (below_alloc _ _)) (below_alloc _ _)) hgr (fun g h => by have h1 := lo_e.out g h; have h2 := hi_e.out g h; show w.heap.size ≠ g; omega); have c_R0_3 := cell_gr (cell_b (cell_b (c_R0_2) (below_alloc _ _)) (below_alloc _ _)) hgr (fun g h => by have h1 := lo_e.out g h; have h2 := hi_e.out g h; show w.heap.size + 1 ≠ g; omega); have c_R1_3 := cell_gr (cell_b (cell_b (c_R1_2) (below_alloc _ _)) (below_alloc _ _)) hgr (fun g h => by have h1 := lo_e.out g h; have h2 := hi_e.out g h; show w.heap.size + 1 ≠ g; omega); have c_R2_3 := cell_gr (cell_b (cell_b (c_R2_2) (below_alloc _ _)) (below_alloc _ _)) hgr (fun g h => by have h1 := lo_e.out g h; have h2 := hi_e.out g h; show w.heap.size + 1 ≠ g; omega); have f_R0_3 := (frz_gr (p := ⟨w.heap.size + 1, 0, none⟩) (cell_lt (cell_b (cell_b (c_R0_2) (below_alloc _ _)) (below_alloc _ _))) hgr (fun g h => by have h1 := lo_e.out g h; have h2 := hi_e.out g h; show w.heap.size + 1 ≠ g; omega)).trans (frz_b (cell_lt (cell_b (c_R0_2) (below_alloc _ _))) (frz_b (cell_lt (c_R0_2)) (f_R0_2) (below_alloc _ _)) (below_alloc _ _)); have f_R1_3 := (frz_gr (p := ⟨w.heap.size + 1, 1, none⟩) (cell_lt (cell_b (cell_b (c_R1_2) (below_alloc _ _)) (below_alloc _ _))) hgr (fun g h => by have h1 := lo_e.out g h; have h2 := hi_e.out g h; show w.heap.size + 1 ≠ g; omega)).trans (frz_b (cell_lt (cell_b (c_R1_2) (below_alloc _ _))) (frz_b (cell_lt (c_R1_2)) (f_R1_2) (below_alloc _ _)) (below_alloc _ _)); have f_R2_3 := (frz_gr (p := ⟨w.heap.size + 1, 2, none⟩) (cell_lt (cell_b (cell_b (c_R2_2) (below_alloc _ _)) (below_alloc _ _))) hgr (fun g h => by have h1 := lo_e.out g h; have h2 := hi_e.out g h; show w.heap.size + 1 ≠ g; omega)).trans (frz_b (cell_lt (cell_b (c_R2_2) (below_alloc _ _))) (frz_b (cell_lt (c_R2_2)) (f_R2_2) (below_alloc _ _)) (below_alloc _ _)); have c_O0_3 := cell_gr (p := ⟨w2.heap.size, 0, none⟩) (v := .int .i64 p) (by first | (simp; done) | (simp [World.cell?_alloc_past, World.cell?_alloc_at]; done)) hgr (fun g h => by have h1 := lo_e.out g h; have h2 := hi_e.out g h; show w2.heap.size ≠ g; omega); have f_O0_3 := (frz_gr (p := ⟨w2.heap.size, 0, none⟩) (by first | omega | (simp; done) | (simp; omega)) hgr (fun g h => by have h1 := lo_e.out g h; have h2 := hi_e.out g h; show w2.heap.size ≠ g; omega)).trans (show _ = false by first | (simp; done) | (simp [World.frozen?_alloc_past, World.frozen?_alloc_at]; done)); have c_O1_3 := cell_gr (p := ⟨w2.heap.size, 1, none⟩) (v := .int .i64 q) (by first | (simp; done) | (simp [World.cell?_alloc_past, World.cell?_alloc_at]; done)) hgr (fun g h => by have h1 := lo_e.out g h; have h2 := hi_e.out g h; show w2.heap.size ≠ g; omega); have f_O1_3 := (frz_gr (p := ⟨w2.heap.size, 1, none⟩) (by first | omega | (simp; done) | (simp; omega)) hgr (fun g h => by have h1 := lo_e.out g h; have h2 := hi_e.out g h; show w2.heap.size ≠ g; omega)).trans (show _ = false by first | (simp; done) | (simp [World.frozen?_alloc_past, World.frozen?_alloc_at]; done)); have c_O2_3 := cell_gr (p := ⟨w2.heap.size, 2, none⟩) (v := .slice a0 xs.length cap0) (by first | (simp; done) | (simp [World.cell?_alloc_past, World.cell?_alloc_at]; done)) hgr (fun g h => by have h1 := lo_e.out g h; have h2 := hi_e.out g h; show w2.heap.size ≠ g; omega); have f_O2_3 := (frz_gr (p := ⟨w2.heap.size, 2, none⟩) (by first | omega | (simp; done) | (simp; omega)) hgr (fun g h => by have h1 := lo_e.out g h; have h2 := hi_e.out g h; show w2.heap.size ≠ g; omega)).trans (show _ = false by first | (simp; done) | (simp [World.frozen?_alloc_past, World.frozen?_alloc_at]; done)); have T_3 := Lib.hid (below_gr (below_trans (below_trans (T_2.out) (below_alloc _ _)) (below_alloc _ _)) (by first | omega | (simp; done) | (simp; omega)) hgr (fun g h => by have h1 := lo_e.out g h; have h2 := hi_e.out g h; omega)); have z_3 : w2.heap.size + 2 ≤ w3.heap.size := (by have := hgr.size; (try simp at this); omega); have o_f_3 := Lib.hid ho; have lo_f := Lib.hid (own_lo o_f_3.out); have hi_f := Lib.hid (own_hi o_f_3.out); have ac_A0_3 := fun o => cell_b (c_A0_3) (below_alloc _ o); have bc_A0_3 := fun o o1 => cell_b (ac_A0_3 o) (below_alloc _ o1); have ac_A1_3 := fun o => cell_b (c_A1_3) (below_alloc _ o); have bc_A1_3 := fun o o1 => cell_b (ac_A1_3 o) (below_alloc _ o1); have ac_A2_3 := fun o => cell_b (c_A2_3) (below_alloc _ o); have bc_A2_3 := fun o o1 => cell_b (ac_A2_3 o) (below_alloc _ o1); have ac_R0_3 := fun o => cell_b (c_R0_3) (below_alloc _ o); have bc_R0_3 := fun o o1 => cell_b (ac_R0_3 o) (below_alloc _ o1); have ac_R1_3 := fun o => cell_b (c_R1_3) (below_alloc _ o); have bc_R1_3 := fun o o1 => cell_b (ac_R1_3 o) (below_alloc _ o1); have ac_R2_3 := fun o => cell_b (c_R2_3) (below_alloc _ o); have bc_R2_3 := fun o o1 => cell_b (ac_R2_3 o) (below_alloc _ o1); have ac_O0_3 := fun o => cell_b (c_O0_3) (below_alloc _ o); have bc_O0_3 := fun o o1 => cell_b (ac_O0_3 o) (below_alloc _ o1); have ac_O1_3 := fun o => cell_b (c_O1_3) (below_alloc _ o); have bc_O1_3 := fun o o1 => cell_b (ac_O1_3 o) (below_alloc _ o1); have ac_O2_3 := fun o => cell_b (c_O2_3) (below_alloc _ o); have bc_O2_3 := fun o o1 => cell_b (ac_O2_3 o) (below_alloc _ o1); have af_R0_3 := fun o => frz_b (cell_lt (c_R0_3)) (f_R0_3) (below_alloc _ o); have bf_R0_3 := fun o o1 => frz_b (cell_lt (ac_R0_3 o)) (af_R0_3 o) (below_alloc _ o1); have af_R1_3 := fun o => frz_b (cell_lt (c_R1_3)) (f_R1_3) (below_alloc _ o); have bf_R1_3 := fun o o1 => frz_b (cell_lt (ac_R1_3 o)) (af_R1_3 o) (below_alloc _ o1); have af_R2_3 := fun o => frz_b (cell_lt (c_R2_3)) (f_R2_3) (below_alloc _ o); have bf_R2_3 := fun o o1 => frz_b (cell_lt (ac_R2_3 o)) (af_R2_3 o) (below_alloc _ o1); have af_O0_3 := fun o => frz_b (cell_lt (c_O0_3)) (f_O0_3) (below_alloc _ o); have bf_O0_3 := fun o o1 => frz_b (cell_lt (ac_O0_3 o)) (af_O0_3 o) (below_alloc _ o1); have af_O1_3 := fun o => frz_b (cell_lt (c_O1_3)) (f_O1_3) (below_alloc _ o); have bf_O1_3 := fun o o1 => frz_b (cell_lt (ac_O1_3 o)) (af_O1_3 o) (below_alloc _ o1); have af_O2_3 := fun o => frz_b (cell_lt (c_O2_3)) (f_O2_3) (below_alloc _ o); have bf_O2_3 := fun o o1 => frz_b (cell_lt (ac_O2_3 o)) (af_O2_3 o) (below_alloc _ o1); clear hgr c_A0_2 c_A1_2 c_A2_2 c_R0_2 c_R1_2 c_R2_2 f_R0_2 f_R1_2 f_R2_2 T_2 ac_A0_2 bc_A0_2 ac_A1_2 bc_A1_2 ac_A2_2 bc_A2_2 ac_R0_2 bc_R0_2 ac_R1_2 bc_R1_2 ac_R2_2 bc_R2_2 af_R0_2 bf_R0_2 af_R1_2 bf_R1_2 af_R2_2 bf_R2_2 hown ho hloc o_e_2 lo_e hi_e))
      go_wp2_with fail
      have e9 : (xs ++ [(t, n)]).length = xs.length + 1 := by simp
      have HF : Hid (RdWB (((((w3).setCell ⟨w2.heap.size, 2, none⟩ (.slice a1 (xs.length + 1) cap1)).setCell ⟨w.heap.size + 1, 0, none⟩ (.int .i64 p)).setCell ⟨w.heap.size + 1, 1, none⟩ (.int .i64 q)).setCell ⟨w.heap.size + 1, 2, none⟩ (.slice a1 (xs.length + 1) cap1)) w.heap.size (.slice a1 (xs ++ [(t, n)]).length cap1) (xs ++ [(t, n)])) := Lib.hid (by rw [e9]; exact rdxb_mono (own_rdxb (owp_eq (own_set (p := ⟨w.heap.size + 1, 2, none⟩) (own_set (p := ⟨w.heap.size + 1, 1, none⟩) (own_set (p := ⟨w.heap.size + 1, 0, none⟩) (own_set (p := ⟨w2.heap.size, 2, none⟩) (o_f_3.out) (fun g h => by have h1 := lo_f.out g h; have h2 := hi_f.out g h; have h5 := iv_f.out g h; show g ≠ w2.heap.size; omega) _) (fun g h => by have h1 := lo_f.out g h; have h2 := hi_f.out g h; have h5 := iv_f.out g h; show g ≠ w.heap.size + 1; omega) _) (fun g h => by have h1 := lo_f.out g h; have h2 := hi_f.out g h; have h5 := iv_f.out g h; show g ≠ w.heap.size + 1; omega) _) (fun g h => by have h1 := lo_f.out g h; have h2 := hi_f.out g h; have h5 := iv_f.out g h; show g ≠ w.heap.size + 1; omega) _) rfl e9.symm)) (by omega))
      refine bodyPost_ret (v := .tuple #[.agg #[.int .i64 p, .int .i64 q, .slice a1 (xs.length + 1) cap1], .bool false, .bool true]) (by simp [results, Tryd.results40, go_sem, c_R0_3, c_R1_3, c_R2_3]) rfl ⟨p, q, xs ++ [(t, n)], a1, cap1, _, true, by rw [e9], ⟨_, rfl⟩, by omega, HF.out, (((((T_3.out).setCell (p := ⟨w2.heap.size, 2, none⟩) (by show w.heap.size ≤ w2.heap.size; omega) _).setCell (p := ⟨w.heap.size + 1, 0, none⟩) (by show w.heap.size ≤ w.heap.size + 1; omega) _).setCell (p := ⟨w.heap.size + 1, 1, none⟩) (by show w.heap.size ≤ w.heap.size + 1; omega) _).setCell (p := ⟨w.heap.size + 1, 2, none⟩) (by show w.heap.size ≤ w.heap.size + 1; omega) _)⟩
  · have HS : Hid (sval p q xs = false) := Lib.hid (by simpa using hs)
    clear hs
    go_enter Tryd.func40, Tryd.ntmps40
    have T_0 : Hid (Below w.heap.size w w) := Lib.hid (Below.refl _ _)
    go_wp2_with fail
    (with_reducible refine (S_SemValid _ p q _ xs (rdxb_x (rdxb_b (rdxb_b (r_d_0.out) (below_alloc _ _)) (below_alloc _ _))) (by omega)).mono ?_)
    rintro e w1 ⟨rfl, hb⟩
    have c_A0_1 := cell_b (p := ⟨w.heap.size, 0, none⟩) (v := .int .i64 p) (by first | (simp; done) | (simp [World.cell?_alloc_past, World.cell?_alloc_at]; done)) hb
    have c_A1_1 := cell_b (p := ⟨w.heap.size, 1, none⟩) (v := .int .i64 q) (by first | (simp; done) | (simp [World.cell?_alloc_past, World.cell?_alloc_at]; done)) hb
    have c_A2_1 := cell_b (p := ⟨w.heap.size, 2, none⟩) (v := .slice a xs.length cap) (by first | (simp; done) | (simp [World.cell?_alloc_past, World.cell?_alloc_at]; done)) hb
    have c_R0_1 := cell_b (p := ⟨w.heap.size + 1, 0, none⟩) (v := .int .i64 0) (by first | (simp; done) | (simp [World.cell?_alloc_past, World.cell?_alloc_at]; done)) hb
    have f_R0_1 := frz_b (p := ⟨w.heap.size + 1, 0, none⟩) (by first | omega | (simp; done) | (simp; omega)) (show _ = false by first | (simp; done) | (simp [World.frozen?_alloc_past, World.frozen?_alloc_at]; done)) hb
    have c_R1_1 := cell_b (p := ⟨w.heap.size + 1, 1, none⟩) (v := .int .i64 0) (by first | (simp; done) | (simp [World.cell?_alloc_past, World.cell?_alloc_at]; done)) hb
    have f_R1_1 := frz_b (p := ⟨w.heap.size + 1, 1, none⟩) (by first | omega | (simp; done) | (simp; omega)) (show _ = false by first | (simp; done) | (simp [World.frozen?_alloc_past, World.frozen?_alloc_at]; done)) hb
    have c_R2_1 := cell_b (p := ⟨w.heap.size + 1, 2, none⟩) (v := .slice none 0 0) (by first | (simp; done) | (simp [World.cell?_alloc_past, World.cell?_alloc_at]; done)) hb
    have f_R2_1 := frz_b (p := ⟨w.heap.size + 1, 2, none⟩) (by first | omega | (simp; done) | (simp; omega)) (show _ = false by first | (simp; done) | (simp [World.frozen?_alloc_past, World.frozen?_alloc_at]; done)) hb
    have r_d_1 := Lib.hid (rdxb_b (rdxb_b (rdxb_b (r_d_0.out) (below_alloc _ _)) (below_alloc _ _)) hb)
    have T_1 := Lib.hid (below_trans (below_trans (below_trans (T_0.out) (below_alloc _ _)) (below_alloc _ _)) hb)
    have z_1 : w.heap.size + 2 ≤ w1.heap.size := (by have := hb.size; (try simp at this); omega)
    rw [HS.out]
    have ac_A0_1 := fun o => cell_b (c_A0_1) (below_alloc _ o)
    have bc_A0_1 := fun o o1 => cell_b (ac_A0_1 o) (below_alloc _ o1)
    have ac_A1_1 := fun o => cell_b (c_A1_1) (below_alloc _ o)
    have bc_A1_1 := fun o o1 => cell_b (ac_A1_1 o) (below_alloc _ o1)
    have ac_A2_1 := fun o => cell_b (c_A2_1) (below_alloc _ o)
    have bc_A2_1 := fun o o1 => cell_b (ac_A2_1 o) (below_alloc _ o1)
    have ac_R0_1 := fun o => cell_b (c_R0_1) (below_alloc _ o)
    have bc_R0_1 := fun o o1 => cell_b (ac_R0_1 o) (below_alloc _ o1)
    have ac_R1_1 := fun o => cell_b (c_R1_1) (below_alloc _ o)
    have bc_R1_1 := fun o o1 => cell_b (ac_R1_1 o) (below_alloc _ o1)
    have ac_R2_1 := fun o => cell_b (c_R2_1) (below_alloc _ o)
    have bc_R2_1 := fun o o1 => cell_b (ac_R2_1 o) (below_alloc _ o1)
    have af_R0_1 := fun o => frz_b (cell_lt (c_R0_1)) (f_R0_1) (below_alloc _ o)
    have bf_R0_1 := fun o o1 => frz_b (cell_lt (ac_R0_1 o)) (af_R0_1 o) (below_alloc _ o1)
    have af_R1_1 := fun o => frz_b (cell_lt (c_R1_1)) (f_R1_1) (below_alloc _ o)
    have bf_R1_1 := fun o o1 => frz_b (cell_lt (ac_R1_1 o)) (af_R1_1 o) (below_alloc _ o1)
    have af_R2_1 := fun o => frz_b (cell_lt (c_R2_1)) (f_R2_1) (below_alloc _ o)
    have bf_R2_1 := fun o o1 => frz_b (cell_lt (ac_R2_1 o)) (af_R2_1 o) (below_alloc _ o1)
    clear hb r_d_0 T_0
    go_wp2_with fail
    refine bodyPost_ret (v := .tuple #[.agg #[.int .i64 0, .int .i64 0, .slice none 0 0], .bool false, .bool false]) (by simp [results, Tryd.results40, go_sem, c_R0_1, c_R1_1, c_R2_1]) rfl ⟨0, 0, [], none, 0, _, false, rfl, ⟨_, rfl⟩, by simp, rdxb_nil _ _ _, ((((T_1.out).setCell (p := ⟨w.heap.size + 1, 0, none⟩) (by show w.heap.size ≤ w.heap.size + 1; omega) _).setCell (p := ⟨w.heap.size + 1, 1, none⟩) (by show w.heap.size ≤ w.heap.size + 1; omega) _).setCell (p := ⟨w.heap.size + 1, 2, none⟩) (by show w.heap.size ≤ w.heap.size + 1; omega) _)⟩
end Go.Proofs.YtcbdpcalmafdiaaDoor
