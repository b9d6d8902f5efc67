/- The contract of impl.LandFlight. -/
import Derived.Test.YtafpnkcdoeicgaaLandW
import Derived.Deep.RegionHeld3
import Derived.Deep.RegionLaw
import Derived.Deep.DrawnRows
namespace Go.Proofs.Ytafpnkcdoeicgaa
open Go.RowKit
attribute [local go_sem ↓] Go.wp_at_zero Go.wp_at_succ

theorem del_sum (Ts : List FT) (k : Nat) : (Ts.take k ++ Ts.drop (k + 1)).length + tsum (Ts.take k ++ Ts.drop (k + 1)) ≤ Ts.length + tsum Ts := by
  have h1 := tsum_take_le Ts k
  unfold tsum at h1 ⊢
  have h2 := fsum_append ((Ts.take (k + 1)).map fl) ((Ts.drop (k + 1)).map fl)
  rw [← List.map_append, List.take_append_drop] at h2
  have h3 : fsum ((Ts.take k).map fl) ≤ fsum ((Ts.take (k + 1)).map fl) := by
    have h := fsum_take_le ((Ts.take (k + 1)).map fl) k
    rw [← List.map_take, List.take_take] at h
    rwa [Nat.min_eq_left (Nat.le_succ k)] at h
  rw [List.map_append, fsum_append]
  simp only [List.length_append, List.length_take, List.length_drop]
  omega
set_option maxHeartbeats 4000000 in
set_option maxRecDepth 100000 in
theorem I_LandFlight (w : World) (B C : Nat) (v : Value) (ts : List FT) (key t : Int) (hr : RdF w B C v ts) (hl : ts.length + tsum ts ≤ 4294967296) :
    Calls Try.prog 24 #[v, .int .i64 key, .int .i64 t] w (LandI w (ts.map fl) key t) := by
  have r_A_0 := Lib.hid hr
  clear hr
  by_cases hv : fval (ts.map fl) = true
  rotate_left
  · have HV : Hid (fval (ts.map fl) = false) := Lib.hid (by simpa using hv)
    clear hv
    go_enter Try.func24, Try.ntmps24
    have T_0 : Hid (Below w.heap.size w w) := Lib.hid (Below.refl _ _)
    go_wp2_with fail
    (with_reducible refine (I_FlightsValid_q _ _ _ _ ts _ (rdf_b (rdf_b (r_A_0.out) (below_alloc _ _)) (below_alloc _ _)) hl HV.out).mono ?_)
    rintro e w1 ⟨rfl, hb⟩
    have c_bk0_1 := cell_b (p := ⟨w.heap.size, 0, none⟩) (v := .int .i64 key) (by first | (simp; done) | (simp [World.cell?_alloc_past, World.cell?_alloc_at]; done)) hb
    have c_bt0_1 := cell_b (p := ⟨w.heap.size + 1, 0, none⟩) (v := .int .i64 t) (by first | (simp; done) | (simp [World.cell?_alloc_past, World.cell?_alloc_at]; done)) hb
    have r_A_1 := Lib.hid (rdf_b (rdf_b (rdf_b (r_A_0.out) (below_alloc _ _)) (below_alloc _ _)) hb)
    have T_1 := Lib.hid (below_trans (below_trans (below_trans (T_0.out) (below_alloc _ _)) (below_alloc _ _)) hb)
    have z_1 : w.heap.size + 2 ≤ w1.heap.size := (by have := hb.size; (try simp at this); omega)
    have ac_bk0_1 := fun o => cell_b (c_bk0_1) (below_alloc _ o)
    have bc_bk0_1 := fun o o1 => cell_b (ac_bk0_1 o) (below_alloc _ o1)
    have ac_bt0_1 := fun o => cell_b (c_bt0_1) (below_alloc _ o)
    have bc_bt0_1 := fun o o1 => cell_b (ac_bt0_1 o) (below_alloc _ o1)
    clear hb r_A_0 T_0
    go_wp2_with fail
    refine bodyPost_ret (v := .tuple #[.slice none 0 0, .slice none 0 0, .bool false]) (by simp [results, Try.results24, go_sem]) rfl ⟨[], none, 0, w.heap.size, [], none, 0, false, fland_inv HV.out, rfl, owf_mono (owf_nil _ _ _) (Nat.le_refl _) (Nat.zero_le _) (by have h := ((T_1.out) : Below w.heap.size w _).size; omega), Nat.le_refl _, ⟨ow_nil _ _, fun g h => by simp [Value.ownBlock] at h⟩, (T_1.out)⟩
  have HV : Hid (fval (ts.map fl) = true) := Lib.hid hv
  have hl6 := fval_sum hv
  have hl7 : ts.length + tsum ts ≤ 6 := by simpa [tsum] using hl6
  clear hv hl6
  go_enter Try.func24, Try.ntmps24
  have T_0 : Hid (Below w.heap.size w w) := Lib.hid (Below.refl _ _)
  go_wp2_with fail
  (with_reducible refine (I_FlightsValid_q _ _ _ _ ts _ (rdf_b (rdf_b (r_A_0.out) (below_alloc _ _)) (below_alloc _ _)) hl HV.out).mono ?_)
  rintro e w1 ⟨rfl, hb⟩
  have c_bk0_1 := cell_b (p := ⟨w.heap.size, 0, none⟩) (v := .int .i64 key) (by first | (simp; done) | (simp [World.cell?_alloc_past, World.cell?_alloc_at]; done)) hb
  have c_bt0_1 := cell_b (p := ⟨w.heap.size + 1, 0, none⟩) (v := .int .i64 t) (by first | (simp; done) | (simp [World.cell?_alloc_past, World.cell?_alloc_at]; done)) hb
  have r_A_1 := Lib.hid (rdf_b (rdf_b (rdf_b (r_A_0.out) (below_alloc _ _)) (below_alloc _ _)) hb)
  have T_1 := Lib.hid (below_trans (below_trans (below_trans (T_0.out) (below_alloc _ _)) (below_alloc _ _)) hb)
  have z_1 : w.heap.size + 2 ≤ w1.heap.size := (by have := hb.size; (try simp at this); omega)
  have ac_bk0_1 := fun o => cell_b (c_bk0_1) (below_alloc _ o)
  have bc_bk0_1 := fun o o1 => cell_b (ac_bk0_1 o) (below_alloc _ o1)
  have ac_bt0_1 := fun o => cell_b (c_bt0_1) (below_alloc _ o)
  have bc_bt0_1 := fun o o1 => cell_b (ac_bt0_1 o) (below_alloc _ o1)
  clear hb r_A_0 T_0
  go_wp2_with fail
  (with_reducible refine (slices_IndexFuncF _ _ _ _ ts _ _ key t (r_A_1.out) (by omega) (c_bk0_1) (c_bt0_1)).mono ?_)
  rintro e w2 ⟨hh, hb⟩
  have c_bk0_2 := cell_b (c_bk0_1) hb
  have c_bt0_2 := cell_b (c_bt0_1) hb
  have r_A_2 := Lib.hid (rdf_b (r_A_1.out) hb)
  have T_2 := Lib.hid (below_trans (T_1.out) hb)
  have z_2 : w1.heap.size ≤ w2.heap.size := (by have := hb.size; (try simp at this); omega)
  have ac_bk0_2 := fun o => cell_b (c_bk0_2) (below_alloc _ o)
  have bc_bk0_2 := fun o o1 => cell_b (ac_bk0_2 o) (below_alloc _ o1)
  have ac_bt0_2 := fun o => cell_b (c_bt0_2) (below_alloc _ o)
  have bc_bt0_2 := fun o o1 => cell_b (ac_bt0_2 o) (below_alloc _ o1)
  clear hb c_bk0_1 c_bt0_1 r_A_1 T_1 ac_bk0_1 bc_bk0_1 ac_bt0_1 bc_bt0_1
  rcases hh with ⟨k, hk, rfl, hky, hot⟩ | ⟨rfl, hno⟩
  · have HLD := Lib.hid (fland_yes HV.out hk hky hot)
    have hkn : ¬ ((k : Int) < 0) := by omega
    clear hky hot
    clear c_bk0_2 ac_bk0_2 bc_bk0_2 c_bt0_2 ac_bt0_2 bc_bt0_2
    go_wp2_with fail
    (with_reducible refine (I_cloneFlights _ _ _ _ ts (r_A_2.out) hl).mono ?_)
    rintro e w3 ⟨Ts, a1, cap1, rfl, hmp, hof, hb⟩
    have r_A_3 := Lib.hid (rdf_b (r_A_2.out) hb)
    have T_3 := Lib.hid (below_trans (T_2.out) hb)
    have z_3 : w2.heap.size ≤ w3.heap.size := (by have := hb.size; (try simp at this); omega)
    clear hb r_A_2 T_2
    have r_o_3 := Lib.hid (owf_mono hof (show w.heap.size ≤ _ by omega) (Nat.le_refl _) (Nat.le_refl _))
    have HM := Lib.hid hmp
    have hTl : Ts.length = ts.length := len_eq hmp
    have hTs : Ts.length + tsum Ts ≤ 6 := by have := tsum_eq hmp; omega
    have HTL := Lib.hid hTl
    clear hTl hof hmp
    clear r_A_3
    have hkT : k < Ts.length := by have := HTL.out; omega
    have hkT2 : (k : Int) < (Ts.length : Int) := by omega
    have hk0 : (0 : Int) ≤ (k : Int) := by omega
    obtain ⟨gq, rfl⟩ := owf_some r_o_3.out (by omega)
    obtain ⟨_, _, c_Y2_3, _⟩ := owf_cells r_o_3.out rfl k hkT
    have hgB := own_lo r_o_3.out.1 gq rfl
    have hgC := r_o_3.out.2.1 gq rfl
    obtain ⟨xa, xc, hx3⟩ := own_shape (r_o_3.out.2.2.1 _ (List.getElem_mem hkT)).1
    rw [hx3] at c_Y2_3
    have HRI : Hid (RdI w3 w.heap.size w3.heap.size (.slice xa (fw Ts[k]).length xc) (fw Ts[k])) := Lib.hid (by have h := owi_rdi (r_o_3.out.2.2.1 _ (List.getElem_mem hkT)); rw [hx3] at h; exact h)
    have HNE : Hid (∀ x, (Value.slice xa (fw Ts[k]).length xc).ownBlock = some x → x < gq ∨ gq + 1 ≤ x) := Lib.hid (fun x hx => by have h := r_o_3.out.2.2.2.1 _ (List.getElem_mem hkT) gq x rfl (by rw [hx3]; exact hx); omega)
    obtain ⟨xs, hxs⟩ : ∃ xs, fw Ts[k] = xs := ⟨_, rfl⟩
    have HXS := Lib.hid hxs
    have hxl : xs.length ≤ 6 := by have h := tsum_get_le hkT; rw [← hxs]; show Ts[k].2.2.1.length ≤ 6; omega
    rw [hxs] at HRI HNE c_Y2_3
    clear hx3 hxs
    have y1 : IntKind.i64.wrap ((k : Int) + 1) = (k : Int) + 1 := IntWalk.i64_in _ (by omega)
    go_wp2_with fail
    (with_reducible refine (slices_DeleteF _ _ _ gq cap1 Ts k r_o_3.out hkT (by omega)).mono ?_)
    rintro e w4 ⟨cap2, rfl, hrd, hfr⟩
    have HRD := Lib.hid hrd
    have HF1 := Lib.hid hfr
    have HR2 : Hid (RdI w4 w.heap.size w3.heap.size (.slice xa xs.length xc) xs) := Lib.hid ⟨rd_fr HRI.out.1 hfr (fun _ x hx => HNE.out x hx), HRI.out.2⟩
    have T_4 := Lib.hid (below_fr T_3.out hfr (by omega) hgB)
    have z_4 := hfr.size
    clear hrd hfr c_Y2_3 r_o_3 HRI HNE T_3 HF1
    have hsm : (Ts.take k ++ Ts.drop (k + 1)).length + tsum (Ts.take k ++ Ts.drop (k + 1)) ≤ 4294967296 := Nat.le_trans (del_sum Ts k) (by omega)
    have HSM := Lib.hid hsm
    clear hsm
    go_wp2_with fail
    (with_reducible refine (I_cloneFlights _ _ _ _ _ HRD.out HSM.out).mono ?_)
    rintro e w5 ⟨Rs, a3, c3, rfl, hmp, hof, hb⟩
    have HMR := Lib.hid hmp
    have HOR := Lib.hid hof
    have HR3 := Lib.hid (rdi_b HR2.out hb)
    have T_5 := Lib.hid (below_trans T_4.out hb)
    have z_5 := hb.size
    clear hmp hof hb HR2 HRD T_4
    go_wp2_with fail
    (with_reducible refine (I_cloneInts _ _ xs (rdi_rd HR3.out) (by omega)).mono ?_)
    rintro e w6 ⟨a4, c4, rfl, ho4, hb⟩
    have HO4 := Lib.hid ho4
    have HOR2 := Lib.hid (owf_b HOR.out hb)
    have T_6 := Lib.hid (below_trans T_5.out hb)
    clear ho4 hb HR3 HOR T_5
    go_wp2_with fail
    refine bodyPost_ret (v := .tuple #[.slice a3 Rs.length c3, .slice a4 xs.length c4, .bool true]) (by simp [results, Try.results24, go_sem]) rfl ⟨Rs, a3, c3, w5.heap.size, xs, a4, c4, true, ?_, rfl, owf_mono HOR2.out (by omega) (Nat.le_refl _) HOR2.out.2.2.2.2.2, by omega, ow_owi HO4.out, T_6.out⟩
    rw [HLD.out, HMR.out, erase_map Ts ts HM.out k, ← HXS.out]
    have e := congrArg (fun l => l[k]?) HM.out
    simp only [List.getElem?_map, List.getElem?_eq_getElem hkT, List.getElem?_eq_getElem hk, Option.map_some, Option.some.injEq, Prod.mk.injEq] at e
    rw [← e.2.2]
  · go_wp2_with fail
    refine bodyPost_ret (v := .tuple #[.slice none 0 0, .slice none 0 0, .bool false]) (by simp [results, Try.results24, go_sem]) rfl ⟨[], none, 0, w.heap.size, [], none, 0, false, fland_none hno, rfl, owf_mono (owf_nil _ _ _) (Nat.le_refl _) (Nat.zero_le _) (by have h := ((T_2.out) : Below w.heap.size w _).size; omega), Nat.le_refl _, ⟨ow_nil _ _, fun g h => by simp [Value.ownBlock] at h⟩, (T_2.out)⟩
end Go.Proofs.Ytafpnkcdoeicgaa
