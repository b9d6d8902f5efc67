/- Contracts of l3Copy and cloneFlights. -/
import Derived.Test.YtafpnkcdoeicgaaFlightValid
import Derived.Test.YtafpnkcdoeicgaaFlightOwn
import Derived.Deep.RegionHeld3
import Derived.Deep.RegionLaw
import Derived.Deep.DrawnRows
namespace Go.Proofs.Ytafpnkcdoeicgaa
open Go.RowKit
attribute [local go_sem ↓] Go.wp_at_zero Go.wp_at_succ

/-- At the head of a copying loop. -/
def CpHead (w : World) (ts : List FT) (vi vo : Value) (wr : World) : Prop :=
  ∃ (Ts : List FT) (a : Option Addr) (cap C : Nat), Ts.length ≤ ts.length ∧ vi = .int .i64 (Ts.length : Int) ∧ vo = .slice a Ts.length cap ∧ Ts.map fl = (ts.map fl).take Ts.length ∧ OwF wr 47 w.heap.size C (.slice a Ts.length cap) Ts ∧ w.heap.size ≤ C ∧ C ≤ wr.heap.size ∧ Below w.heap.size w wr
/-- A copy of flights. -/
def Copied (w : World) (ts : List FT) (e : Ending) (w' : World) : Prop :=
  ∃ (Ts : List FT) (a : Option Addr) (cap : Nat), e = .returned (.slice a Ts.length cap) ∧ Ts.map fl = ts.map fl ∧ OwF w' 47 w.heap.size w'.heap.size (.slice a Ts.length cap) Ts ∧ Below w.heap.size w w'
theorem fl_snoc {ts Ts : List FT} {X : FT} {v : Value} (hlt : Ts.length < ts.length) (hm : Ts.map fl = (ts.map fl).take Ts.length) (hX : ts[Ts.length] = X) : (Ts ++ [(X.1, X.2.1, X.2.2.1, v)]).map fl = (ts.map fl).take (Ts ++ [(X.1, X.2.1, X.2.2.1, v)]).length := by
  have hl : Ts.length < (ts.map fl).length := by simpa using hlt
  rw [List.map_append, hm, List.length_append, List.length_singleton, List.take_succ_eq_append_getElem hl]
  simp [hX]
set_option maxHeartbeats 4000000 in
set_option maxRecDepth 100000 in
theorem S_l3Copy (w : World) (B C : Nat) (v : Value) (ts : List FT) (hr : RdF w B C v ts) (hl : ts.length + tsum ts ≤ 4294967296) :
    Calls Try.prog 45 #[v] w (Copied w ts) := by
  obtain ⟨i0, hi, hz0, hz1, hz2⟩ := info_parts info3
  obtain ⟨j0, hj, hy0, hy1, hy2⟩ := info_parts infoF
  have HR := Lib.hid hr
  obtain ⟨a, cap, rfl, hcap, hnc, hc0⟩ := rdf_cells hr
  clear hc0 hnc hr
  go_enter Try.func45, Try.ntmps45
  go_wp2
  go_loopw [3, 4] (fun vo i wr => CpHead w ts i vo wr) (fun _ i _ => ts.length - (intOf i).toNat)
  case atStart => exact ⟨[], _, 0, w.heap.size + 1, Nat.zero_le _, rfl, rfl, by simp, owf_made w _ _ _ rfl (Nat.le_refl _), by omega, by simp, below_alloc _ _⟩
  case round =>
    obtain ⟨Ts, a1, cap1, C1, hk, rfl, rfl, hmp, hof, hC0, hC1, hbel⟩ := hrel
    have HM := Lib.hid hmp
    have hz10 := hbel.size
    obtain ⟨w10, rfl⟩ : ∃ wo : World, wo = wr := ⟨_, rfl⟩
    have r_o_10 := Lib.hid hof
    have T_10 := Lib.hid hbel
    clear hmp hof
    by_cases hlt : Ts.length < ts.length
    · obtain ⟨a', c', e, _, _, hc⟩ := rdf_cells (rdf_b HR.out hbel)
      simp only [Value.slice.injEq, true_and] at e
      obtain ⟨rfl, rfl⟩ := e
      rcases hc with hc | ⟨g9, off, rfl, hg9, _, hg8, hc⟩
      · omega
      obtain ⟨e1, e2, e3⟩ := hc Ts.length hlt
      have r0 := rdf_in HR.out hlt
      have r1 := rdi_mono (rdi_b r0 hbel) (Nat.zero_le _) HR.out.2.2.2
      have hg7 := HR.out.2.2.2
      have hlx := tsum_get_le hlt
      obtain ⟨X, hX⟩ : ∃ X : FT, ts[Ts.length] = X := ⟨_, rfl⟩
      rw [hX] at e1 e2 e3 r1 hlx
      obtain ⟨xa, xc, hx3⟩ := rd_sl r1.1
      rw [hx3] at e3 r1
      have HSN := Lib.hid (fun v => fl_snoc (v := v) hlt HM.out hX)
      obtain ⟨xk, xo, xs, xv⟩ := X
      simp only at e1 e2 e3 r1 hlx HSN
      have r_z_10 := Lib.hid r1
      have c_X0_10 := e1
      have c_X1_10 := e2
      have c_X2_10 := e3
      clear hc r0 hx3 hX hbel r1 e1 e2 e3
      have ac_X0_10 := fun o => cell_b (c_X0_10) (below_alloc _ o)
      have ac_X1_10 := fun o => cell_b (c_X1_10) (below_alloc _ o)
      have ac_X2_10 := fun o => cell_b (c_X2_10) (below_alloc _ o)
      go_wp2_with fail
      go_region_held3 (fun w' => w'.cell? ⟨g9, off + Ts.length * 3, none⟩ = some (.int .i64 xk) ∧ w'.cell? ⟨g9, off + Ts.length * 3 + 1, none⟩ = some (.int .i64 xo) ∧ w'.cell? ⟨g9, off + Ts.length * 3 + 2, none⟩ = some (.slice xa xs.length xc)) ((refine ⟨?_, ?_, ?_⟩ <;> (repeat (first | with_reducible assumption | with_reducible refine cell_b ?_ (below_alloc _ _) | with_reducible refine cell_b ?_ (drew_below _)))))
        (first | (have hof9 : OwF ((w11).alloc (.cells #[.int .i64 (xk), .int .i64 (xo), .slice a2 (xs.length) cap2] 47)) 47 (w.heap.size) (C1) (.slice a1 Ts.length cap1) (Ts) := (owf_b (r_o_11.out) (below_alloc _ _)); have hue9 : ((w11).alloc (.cells #[.int .i64 (xk), .int .i64 (xo), .slice a2 (xs.length) cap2] 47)).ownsRow (w10.heap.size) 3 1 (.slice a2 (xs.length) cap2) (xs.length) (ints (xs)) := (own_below (o_e_11.out) (below_alloc _ _)); refine step_append_rdx (w := (w11).alloc (.cells #[.int .i64 (xk), .int .i64 (xo), .slice a2 (xs.length) cap2] 47)) (by rfl) _ _ 25 rfl (w.heap.size) 47 3 40 (.agg #[.int .i64 0, .int .i64 0, .slice none 0 0]) j0 Try.underlying25 hj hy0 hy1 hy2 rfl (by decide) (.slice a1 Ts.length cap1) (Ts.length) (tcs (Ts)) rfl hof9.1 _ _ _ (tcs [(xk, xo, xs, .slice a2 (xs.length) cap2)]) rfl (rdx_lit3 _ _ _ _ _ _ (w11.heap.size) (by first | rfl | (simp; done))) (tcs_one1 _ _ _ _ _ _) (by first | (unfold maxLen; omega) | (unfold maxLen; simp; omega)) (by first | omega | (simp; omega)) (by first | omega | (simp; done) | (simp; omega)) ?_; intro v12 w12 hown hgr hloc; have ho : w12.ownsRow (w.heap.size) 47 3 v12 (Ts.length + 1) (tcs (Ts ++ [(xk, xo, xs, .slice a2 (xs.length) cap2)])) := (by rw [tcs_append]; exact hown); obtain ⟨a3, cap3, hv⟩ := own_shape ho; subst hv; have hof8 := owf_snoc hof9 (own_base hue9 (by first | omega | (simp; done) | (simp; omega))) (by omega) ho (by first | rfl | omega) hgr hloc; have c_X0_12 := cell_gr (cell_b (c_X0_11) (below_alloc _ _)) hgr (fun g h => by have h1 := own_lo hof9.1 g h; have h2 := hof9.2.1 g h; show g9 ≠ g; omega); have c_X1_12 := cell_gr (cell_b (c_X1_11) (below_alloc _ _)) hgr (fun g h => by have h1 := own_lo hof9.1 g h; have h2 := hof9.2.1 g h; show g9 ≠ g; omega); have c_X2_12 := cell_gr (cell_b (c_X2_11) (below_alloc _ _)) hgr (fun g h => by have h1 := own_lo hof9.1 g h; have h2 := hof9.2.1 g h; show g9 ≠ g; omega); have r_z_12 := Lib.hid (rdi_row (rdi_b (r_z_11.out) (below_alloc _ _)) hgr (fun g h => by have h1 := own_lo hof9.1 g h; have h2 := hof9.2.1 g h; omega)); have T_12 := Lib.hid (below_gr (below_trans (T_11.out) (below_alloc _ _)) (by first | omega | (simp; done) | (simp; omega)) hgr (fun g h => by have h1 := own_lo hof9.1 g h; have h2 := hof9.2.1 g h; omega)); have z_12 : w11.heap.size + 1 ≤ w12.heap.size := (by have := hgr.size; (try simp at this); omega); have r_p_12 := Lib.hid hof8; have ac_X0_12 := fun o => cell_b (c_X0_12) (below_alloc _ o); have ac_X1_12 := fun o => cell_b (c_X1_12) (below_alloc _ o); have ac_X2_12 := fun o => cell_b (c_X2_12) (below_alloc _ o); clear hgr c_X0_11 c_X1_11 c_X2_11 r_z_11 T_11 ac_X0_11 ac_X1_11 ac_X2_11 hown ho hloc hof9 hof8 hue9 r_o_11 o_e_11 lo_e hi_e) | (refine step_append_rd (w := ((w10).alloc (.cells #[] 3)).drew) rfl _ _ 34 rfl (w10.heap.size) i0 Try.underlying34 hi hz0 hz1 hz2 (.slice (some ⟨w10.heap.size, 0, none⟩) 0 0) 0 [] rfl (own_below (ow_made_at (w10) (w10.heap.size) (w10.heap.size) (by first | rfl | simp) (Nat.le_refl _)) (drew_below _)) _ _ _ (xs) rfl (rdi_rd (rdi_b (rdi_b (r_z_10.out) (below_alloc _ _)) (drew_below _))) rfl (by first | (unfold maxLen; omega) | (unfold maxLen; simp; omega)) (by first | omega | (simp; omega)) (by first | omega | (simp; done) | (simp; omega)) ?_; intro v11 w11 hown hgr hloc; have ho : w11.ownsRow (w10.heap.size) 3 1 v11 (xs.length) (ints (xs)) := (by rw [Nat.zero_add, List.nil_append] at hown; exact hown); obtain ⟨a2, cap2, hv⟩ := own_shape ho; subst hv; have iv_e : Hid (∀ g, (Value.slice a2 (xs.length) cap2).ownBlock = some g → (w10.heap.size ≤ g ∧ g < w10.heap.size + 1) ∨ (w10.heap.size + 1 ≤ g ∧ g < w11.heap.size)) := Lib.hid (fun g h => by have h9 := hgr.size; have h7 := own_hi ho g h; rcases hloc with h8 | h8 <;> rw [h8] at h <;> (simp only [Value.ownBlock, Option.some.injEq] at h; (try simp at h9); (try simp at h); omega)); have c_X0_11 := cell_gr (cell_b (cell_b (c_X0_10) (below_alloc _ _)) (drew_below _)) hgr (fun g h => by simp only [Value.ownBlock, Option.some.injEq] at h; show g9 ≠ g; omega); have c_X1_11 := cell_gr (cell_b (cell_b (c_X1_10) (below_alloc _ _)) (drew_below _)) hgr (fun g h => by simp only [Value.ownBlock, Option.some.injEq] at h; show g9 ≠ g; omega); have c_X2_11 := cell_gr (cell_b (cell_b (c_X2_10) (below_alloc _ _)) (drew_below _)) hgr (fun g h => by simp only [Value.ownBlock, Option.some.injEq] at h; show g9 ≠ g; omega); have r_o_11 := Lib.hid (owf_row (owf_b (owf_b (r_o_10.out) (below_alloc _ _)) (drew_below _)) hgr (fun g h => by simp only [Value.ownBlock, Option.some.injEq] at h; omega)); have r_z_11 := Lib.hid (rdi_row (rdi_b (rdi_b (r_z_10.out) (below_alloc _ _)) (drew_below _)) hgr (fun g h => by simp only [Value.ownBlock, Option.some.injEq] at h; omega)); have T_11 := Lib.hid (below_gr (below_trans (below_trans (T_10.out) (below_alloc _ _)) (drew_below _)) (by first | omega | (simp; done) | (simp; omega)) hgr (fun g h => by simp only [Value.ownBlock, Option.some.injEq] at h; omega)); have z_11 : w10.heap.size + 1 ≤ w11.heap.size := (by have := hgr.size; (try simp at this); omega); have o_e_11 := Lib.hid ho; have lo_e := Lib.hid (own_lo o_e_11.out); have hi_e := Lib.hid (own_hi o_e_11.out); have ac_X0_11 := fun o => cell_b (c_X0_11) (below_alloc _ o); have ac_X1_11 := fun o => cell_b (c_X1_11) (below_alloc _ o); have ac_X2_11 := fun o => cell_b (c_X2_11) (below_alloc _ o); clear hgr c_X0_10 c_X1_10 c_X2_10 r_o_10 r_z_10 T_10 ac_X0_10 ac_X1_10 ac_X2_10 hown ho hloc) | fail)
      go_wp2_with fail
      go_roundw
      case rel => exact ⟨Ts ++ [(xk, xo, xs, .slice a2 (xs.length) cap2)], a3, cap3, w12.heap.size, by simp; omega, by simp, by simp, HSN.out _, by simpa using (r_p_12.out), by omega, Nat.le_refl _, (T_12.out)⟩
      case measure => simp [intOf]; omega
    · have hk2 : Ts.length = ts.length := by omega
      have HK := Lib.hid hk2
      clear hk2 hbel
      go_wp2
      go_ret
      exact ⟨Ts, _, _, rfl, by rw [HM.out, List.take_of_length_le (by have := HK.out; simp; omega)], owf_mono r_o_10.out (Nat.le_refl _) hC1 (Nat.le_refl _), T_10.out⟩
set_option maxHeartbeats 4000000 in
set_option maxRecDepth 100000 in
theorem I_cloneFlights (w : World) (B C : Nat) (v : Value) (ts : List FT) (hr : RdF w B C v ts) (hl : ts.length + tsum ts ≤ 4294967296) :
    Calls Try.prog 49 #[v] w (Copied w ts) := by
  obtain ⟨i0, hi, hz0, hz1, hz2⟩ := info_parts info3
  obtain ⟨j0, hj, hy0, hy1, hy2⟩ := info_parts infoF
  have HR := Lib.hid hr
  obtain ⟨a, cap, rfl, hcap, hnc, hc0⟩ := rdf_cells hr
  clear hc0 hnc hr
  go_enter Try.func49, Try.ntmps49
  go_wp2
  go_loopw [3, 8] (fun vo i wr => CpHead w ts i vo wr) (fun _ i _ => ts.length - (intOf i).toNat)
  case atStart => exact ⟨[], none, 0, w.heap.size, Nat.zero_le _, rfl, rfl, by simp, owf_mono (owf_nil w _ _) (Nat.le_refl _) (Nat.zero_le _) (Nat.le_refl _), Nat.le_refl _, Nat.le_refl _, Below.refl _ _⟩
  case round =>
    obtain ⟨Ts, a1, cap1, C1, hk, rfl, rfl, hmp, hof, hC0, hC1, hbel⟩ := hrel
    have HM := Lib.hid hmp
    have hz10 := hbel.size
    obtain ⟨w10, rfl⟩ : ∃ wo : World, wo = wr := ⟨_, rfl⟩
    have r_o_10 := Lib.hid hof
    have T_10 := Lib.hid hbel
    clear hmp hof
    by_cases hlt : Ts.length < ts.length
    · obtain ⟨a', c', e, _, _, hc⟩ := rdf_cells (rdf_b HR.out hbel)
      simp only [Value.slice.injEq, true_and] at e
      obtain ⟨rfl, rfl⟩ := e
      rcases hc with hc | ⟨g9, off, rfl, hg9, _, hg8, hc⟩
      · omega
      obtain ⟨e1, e2, e3⟩ := hc Ts.length hlt
      have r0 := rdf_in HR.out hlt
      have r1 := rdi_mono (rdi_b r0 hbel) (Nat.zero_le _) HR.out.2.2.2
      have hg7 := HR.out.2.2.2
      have hlx := tsum_get_le hlt
      obtain ⟨X, hX⟩ : ∃ X : FT, ts[Ts.length] = X := ⟨_, rfl⟩
      rw [hX] at e1 e2 e3 r1 hlx
      obtain ⟨xa, xc, hx3⟩ := rd_sl r1.1
      rw [hx3] at e3 r1
      have HSN := Lib.hid (fun v => fl_snoc (v := v) hlt HM.out hX)
      obtain ⟨xk, xo, xs, xv⟩ := X
      simp only at e1 e2 e3 r1 hlx HSN
      have r_z_10 := Lib.hid r1
      have c_X0_10 := e1
      have c_X1_10 := e2
      have c_X2_10 := e3
      clear hc r0 hx3 hX hbel r1 e1 e2 e3
      have ac_X0_10 := fun o => cell_b (c_X0_10) (below_alloc _ o)
      have ac_X1_10 := fun o => cell_b (c_X1_10) (below_alloc _ o)
      have ac_X2_10 := fun o => cell_b (c_X2_10) (below_alloc _ o)
      go_wp2_with fail
      (with_reducible refine (I_cloneInts _ _ xs (rdi_rd (rdi_b (r_z_10.out) (below_alloc _ _))) (by omega)).mono ?_)
      rintro e w11 ⟨a2, cap2, rfl, hd, hb⟩
      have c_X0_11 := cell_b (cell_b (c_X0_10) (below_alloc _ _)) hb
      have c_X1_11 := cell_b (cell_b (c_X1_10) (below_alloc _ _)) hb
      have c_X2_11 := cell_b (cell_b (c_X2_10) (below_alloc _ _)) hb
      have c_F0_11 := cell_b (p := ⟨w10.heap.size, 0, none⟩) (v := .int .i64 xk) (by first | (simp; done) | (simp [World.cell?_alloc_past, World.cell?_alloc_at]; done)) hb
      have c_F1_11 := cell_b (p := ⟨w10.heap.size, 1, none⟩) (v := .int .i64 xo) (by first | (simp; done) | (simp [World.cell?_alloc_past, World.cell?_alloc_at]; done)) hb
      have c_F2_11 := cell_b (p := ⟨w10.heap.size, 2, none⟩) (v := .slice xa xs.length xc) (by first | (simp; done) | (simp [World.cell?_alloc_past, World.cell?_alloc_at]; done)) hb
      have f_F2_11 := frz_b (p := ⟨w10.heap.size, 2, none⟩) (by first | omega | (simp; done) | (simp; omega)) (show _ = false by first | (simp; done) | (simp [World.frozen?_alloc_past, World.frozen?_alloc_at]; done)) hb
      have r_o_11 := Lib.hid (owf_b (owf_b (r_o_10.out) (below_alloc _ _)) hb)
      have r_z_11 := Lib.hid (rdi_b (rdi_b (r_z_10.out) (below_alloc _ _)) hb)
      have T_11 := Lib.hid (below_trans (below_trans (T_10.out) (below_alloc _ _)) hb)
      have z_11 : w10.heap.size + 1 ≤ w11.heap.size := (by have := hb.size; (try simp at this); omega)
      have o_e_11 := Lib.hid (own_base hd (show w10.heap.size + 1 ≤ _ by first | omega | (simp; done) | (simp; omega)))
      have lo_e := Lib.hid (own_lo o_e_11.out)
      have hi_e := Lib.hid (own_hi o_e_11.out)
      have ac_X0_11 := fun o => cell_b (c_X0_11) (below_alloc _ o)
      have ac_X1_11 := fun o => cell_b (c_X1_11) (below_alloc _ o)
      have ac_X2_11 := fun o => cell_b (c_X2_11) (below_alloc _ o)
      have ac_F0_11 := fun o => cell_b (c_F0_11) (below_alloc _ o)
      have ac_F1_11 := fun o => cell_b (c_F1_11) (below_alloc _ o)
      have ac_F2_11 := fun o => cell_b (c_F2_11) (below_alloc _ o)
      have af_F2_11 := fun o => frz_b (cell_lt (c_F2_11)) (f_F2_11) (below_alloc _ o)
      clear hb c_X0_10 c_X1_10 c_X2_10 r_o_10 r_z_10 T_10 ac_X0_10 ac_X1_10 ac_X2_10 hd
      have tok12 : True := trivial
      go_wp2_with (first | (at_builtin; have _t := tok12; have hof9 : OwF (((w11).setCell ⟨w10.heap.size, 2, none⟩ (.slice a2 xs.length cap2)).alloc (.cells #[.int .i64 (xk), .int .i64 (xo), .slice a2 xs.length cap2] 47)) 47 (w.heap.size) (C1) (.slice a1 Ts.length cap1) (Ts) := (owf_b (owf_set (p := ⟨w10.heap.size, 2, none⟩) (r_o_11.out) (by show C1 ≤ w10.heap.size ∨ w10.heap.size < w.heap.size; omega) _) (below_alloc _ _)); have hue9 : (((w11).setCell ⟨w10.heap.size, 2, none⟩ (.slice a2 xs.length cap2)).alloc (.cells #[.int .i64 (xk), .int .i64 (xo), .slice a2 xs.length cap2] 47)).ownsRow (w10.heap.size + 1) 3 1 (.slice a2 xs.length cap2) (xs.length) (ints (xs)) := (own_below (own_set (p := ⟨w10.heap.size, 2, none⟩) (o_e_11.out) (fun g h => by have h1 := lo_e.out g h; have h2 := hi_e.out g h; show g ≠ w10.heap.size; omega) _) (below_alloc _ _)); refine wpList_append_rdx (by rfl) _ _ 25 rfl (w.heap.size) 47 3 40 (.agg #[.int .i64 0, .int .i64 0, .slice none 0 0]) j0 Try.underlying25 hj hy0 hy1 hy2 rfl (by decide) (.slice a1 Ts.length cap1) (Ts.length) (tcs (Ts)) rfl hof9.1 _ _ _ (tcs [(xk, xo, xs, .slice a2 xs.length cap2)]) rfl (rdx_lit3 _ _ _ _ _ _ (w11.heap.size) (by first | rfl | (simp; done))) (tcs_one1 _ _ _ _ _ _) (by first | (unfold maxLen; omega) | (unfold maxLen; simp; omega)) (by first | omega | (simp; omega)) (by first | omega | (simp; done) | (simp; omega)) ?_; intro v12 w12 hown hgr hloc; clear tok12; have ho : w12.ownsRow (w.heap.size) 47 3 v12 (Ts.length + 1) (tcs (Ts ++ [(xk, xo, xs, .slice a2 xs.length cap2)])) := (by rw [tcs_append]; exact hown); obtain ⟨a3, cap3, hv⟩ := own_shape ho; subst hv; have hof8 := owf_snoc hof9 (own_base hue9 (by first | omega | (simp; done) | (simp; omega))) (by omega) ho (by first | rfl | omega) hgr hloc; have c_X0_12 := cell_gr (cell_b (cell_set (p := ⟨w10.heap.size, 2, none⟩) (c_X0_11) (ne_blk (by omega))) (below_alloc _ _)) hgr (fun g h => by have h1 := own_lo hof9.1 g h; have h2 := hof9.2.1 g h; show g9 ≠ g; omega); have c_X1_12 := cell_gr (cell_b (cell_set (p := ⟨w10.heap.size, 2, none⟩) (c_X1_11) (ne_blk (by omega))) (below_alloc _ _)) hgr (fun g h => by have h1 := own_lo hof9.1 g h; have h2 := hof9.2.1 g h; show g9 ≠ g; omega); have c_X2_12 := cell_gr (cell_b (cell_set (p := ⟨w10.heap.size, 2, none⟩) (c_X2_11) (ne_blk (by omega))) (below_alloc _ _)) hgr (fun g h => by have h1 := own_lo hof9.1 g h; have h2 := hof9.2.1 g h; show g9 ≠ g; omega); have c_F0_12 := cell_gr (cell_b (cell_set (p := ⟨w10.heap.size, 2, none⟩) (c_F0_11) (ne_off (by decide))) (below_alloc _ _)) hgr (fun g h => by have h1 := own_lo hof9.1 g h; have h2 := hof9.2.1 g h; show w10.heap.size ≠ g; omega); have c_F1_12 := cell_gr (cell_b (cell_set (p := ⟨w10.heap.size, 2, none⟩) (c_F1_11) (ne_off (by decide))) (below_alloc _ _)) hgr (fun g h => by have h1 := own_lo hof9.1 g h; have h2 := hof9.2.1 g h; show w10.heap.size ≠ g; omega); have c_F2_12 := cell_gr (cell_b (World.cell?_setCell_same _ _ _ (c_F2_11)) (below_alloc _ _)) hgr (fun g h => by have h1 := own_lo hof9.1 g h; have h2 := hof9.2.1 g h; show w10.heap.size ≠ g; omega); have f_F2_12 := (frz_gr (p := ⟨w10.heap.size, 2, none⟩) (cell_lt (cell_b (World.cell?_setCell_same _ _ _ (c_F2_11)) (below_alloc _ _))) hgr (fun g h => by have h1 := own_lo hof9.1 g h; have h2 := hof9.2.1 g h; show w10.heap.size ≠ g; omega)).trans (frz_b (cell_lt (World.cell?_setCell_same _ _ _ (c_F2_11))) ((World.frozen?_setCell _ _ _ _).trans (f_F2_11)) (below_alloc _ _)); have r_z_12 := Lib.hid (rdi_row (rdi_b (rdi_set (p := ⟨w10.heap.size, 2, none⟩) (r_z_11.out) (by show w.heap.size ≤ w10.heap.size ∨ w10.heap.size < 0; omega) _) (below_alloc _ _)) hgr (fun g h => by have h1 := own_lo hof9.1 g h; have h2 := hof9.2.1 g h; omega)); have T_12 := Lib.hid (below_gr (below_trans ((T_11.out).setCell (p := ⟨w10.heap.size, 2, none⟩) (by show w.heap.size ≤ w10.heap.size; omega) _) (below_alloc _ _)) (by first | omega | (simp; done) | (simp; omega)) hgr (fun g h => by have h1 := own_lo hof9.1 g h; have h2 := hof9.2.1 g h; omega)); have z_12 : w11.heap.size + 1 ≤ w12.heap.size := (by have := hgr.size; (try simp at this); omega); have r_p_12 := Lib.hid hof8; have ac_X0_12 := fun o => cell_b (c_X0_12) (below_alloc _ o); have ac_X1_12 := fun o => cell_b (c_X1_12) (below_alloc _ o); have ac_X2_12 := fun o => cell_b (c_X2_12) (below_alloc _ o); have ac_F0_12 := fun o => cell_b (c_F0_12) (below_alloc _ o); have ac_F1_12 := fun o => cell_b (c_F1_12) (below_alloc _ o); have ac_F2_12 := fun o => cell_b (c_F2_12) (below_alloc _ o); have af_F2_12 := fun o => frz_b (cell_lt (c_F2_12)) (f_F2_12) (below_alloc _ o); clear hgr c_X0_11 c_X1_11 c_X2_11 c_F0_11 c_F1_11 c_F2_11 f_F2_11 r_z_11 T_11 ac_X0_11 ac_X1_11 ac_X2_11 ac_F0_11 ac_F1_11 ac_F2_11 af_F2_11 hown ho hloc hof9 hof8 hue9 r_o_11 o_e_11 lo_e hi_e))
      go_wp2_with fail
      go_roundw
      case rel => exact ⟨Ts ++ [(xk, xo, xs, .slice a2 xs.length cap2)], a3, cap3, w12.heap.size, by simp; omega, by simp, by simp, HSN.out _, by simpa using (r_p_12.out), by omega, Nat.le_refl _, (T_12.out)⟩
      case measure => simp [intOf]; omega
    · have hk2 : Ts.length = ts.length := by omega
      have HK := Lib.hid hk2
      clear hk2 hbel
      go_wp2
      go_ret
      exact ⟨Ts, _, _, rfl, by rw [HM.out, List.take_of_length_le (by have := HK.out; simp; omega)], owf_mono r_o_10.out (Nat.le_refl _) hC1 (Nat.le_refl _), T_10.out⟩
end Go.Proofs.Ytafpnkcdoeicgaa
