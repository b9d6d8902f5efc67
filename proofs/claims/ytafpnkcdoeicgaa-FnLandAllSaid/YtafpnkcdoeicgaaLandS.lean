/- The contract of spec.LandFlight. -/
import Derived.Test.YtafpnkcdoeicgaaLandPlain
import Derived.Deep.RegionHeld3
import Derived.Deep.RegionLaw
import Derived.Deep.DrawnRows
namespace Go.Proofs.Ytafpnkcdoeicgaa
open Go.RowKit
attribute [local go_sem ↓] Go.wp_at_zero Go.wp_at_succ

set_option maxHeartbeats 4000000 in
set_option maxRecDepth 100000 in
theorem S_LandFlight (w : World) (B C : Nat) (v : Value) (ts : List FT) (key t : Int) (hr : RdF w B C v ts) (hl : ts.length + tsum ts ≤ 4294967296) :
    Calls Try.prog 23 #[v, .int .i64 key, .int .i64 t] w (LandS w (ts.map fl) key t) := by
  obtain ⟨i0, hi, hz0, hz1, hz2⟩ := info_parts info3
  obtain ⟨j0, hj, hy0, hy1, hy2⟩ := info_parts infoF
  have r_A_0 := Lib.hid hr
  clear hr
  by_cases hv : fval (ts.map fl) = true
  rotate_left
  · have HV : Hid (fval (ts.map fl) = false) := Lib.hid (by simpa using hv)
    clear hv
    obtain ⟨z, hz⟩ : ∃ z, atF (keys (ts.map fl)) key = z := ⟨_, rfl⟩
    have HZ := Lib.hid hz
    clear hz
    go_enter Try.func23, Try.ntmps23
    have T_0 : Hid (Below w.heap.size w w) := Lib.hid (Below.refl _ _)
    go_wp2_with fail
    (with_reducible refine (S_l3Find _ _ _ _ ts key (r_A_0.out) hl).mono ?_)
    rintro e w9 ⟨rfl, rfl⟩
    rw [HZ.out]
    go_wp2_with fail
    (with_reducible refine (S_FlightsValid_q _ _ _ _ ts _ (r_A_0.out) hl HV.out).mono ?_)
    rintro e w1 ⟨rfl, hb⟩
    have r_A_1 := Lib.hid (rdf_b (r_A_0.out) hb)
    have T_1 := Lib.hid (below_trans (T_0.out) hb)
    have z_1 : w.heap.size ≤ w1.heap.size := (by have := hb.size; (try simp at this); omega)
    clear hb r_A_0 T_0
    go_wp2_with fail
    refine bodyPost_ret (v := .tuple #[.slice (some ⟨w1.heap.size, 0, none⟩) 0 0, .slice (some ⟨w1.heap.size + 1, 0, none⟩) 0 0, .bool false]) (by simp [results, Try.results23, go_sem]) rfl ⟨[], _, _, [], _, _, false, fland_inv HV.out, rfl, ?_, ?_, below_trans (below_trans (T_1.out) (below_alloc _ _)) (below_alloc _ _)⟩
    · exact rdf_mono (rdf_b (owf_rdf (owf_made w1 _ w1.heap.size _ rfl (Nat.le_refl _))) (below_alloc _ _)) (by omega) (by simp) (Nat.le_refl _)
    · exact rdi_empty (own_rd (ow_made_at _ _ _ (by simp) (Nat.le_refl _)))
  by_cases hm : key ∈ keys (ts.map fl)
  rotate_left
  · have HV : Hid (fval (ts.map fl) = true) := Lib.hid hv
    clear hv
    obtain ⟨z, hz⟩ : ∃ z, atF (keys (ts.map fl)) key = z := ⟨_, rfl⟩
    have HZ := Lib.hid hz
    have hz0 : z < 0 := by rw [← hz]; exact atF_neg.2 hm
    have HMM := Lib.hid hm
    clear hz hm
    go_enter Try.func23, Try.ntmps23
    have T_0 : Hid (Below w.heap.size w w) := Lib.hid (Below.refl _ _)
    go_wp2_with fail
    (with_reducible refine (S_l3Find _ _ _ _ ts key (r_A_0.out) hl).mono ?_)
    rintro e w9 ⟨rfl, rfl⟩
    rw [HZ.out]
    go_wp2_with fail
    (with_reducible refine (S_FlightsValid_q _ _ _ _ ts _ (r_A_0.out) hl HV.out).mono ?_)
    rintro e w1 ⟨rfl, hb⟩
    have r_A_1 := Lib.hid (rdf_b (r_A_0.out) hb)
    have T_1 := Lib.hid (below_trans (T_0.out) hb)
    have z_1 : w.heap.size ≤ w1.heap.size := (by have := hb.size; (try simp at this); omega)
    clear hb r_A_0 T_0
    go_wp2_with fail
    refine bodyPost_ret (v := .tuple #[.slice (some ⟨w1.heap.size, 0, none⟩) 0 0, .slice (some ⟨w1.heap.size + 1, 0, none⟩) 0 0, .bool false]) (by simp [results, Try.results23, go_sem]) rfl ⟨[], _, _, [], _, _, false, fland_none (fun f hf h => HMM.out (List.mem_map.2 ⟨f, hf, h.1⟩)), rfl, ?_, ?_, below_trans (below_trans (T_1.out) (below_alloc _ _)) (below_alloc _ _)⟩
    · exact rdf_mono (rdf_b (owf_rdf (owf_made w1 _ w1.heap.size _ rfl (Nat.le_refl _))) (below_alloc _ _)) (by omega) (by simp) (Nat.le_refl _)
    · exact rdi_empty (own_rd (ow_made_at _ _ _ (by simp) (Nat.le_refl _)))
  have HV : Hid (fval (ts.map fl) = true) := Lib.hid hv
  clear hv
  obtain ⟨k, hk, hz, hix, hky⟩ := key_in hm
  have HZ := Lib.hid hz
  have HKY := Lib.hid hky
  have hk0 : (0 : Int) ≤ (k : Int) := by omega
  have hk0n : ¬ ((k : Int) < 0) := by omega
  have hk2 : (k : Int) < (ts.length : Int) := by omega
  clear hm hz hix hky
  obtain ⟨ca, cc, rfl, hcap, hnc, hc⟩ := rdf_cells r_A_0.out
  rcases hc with hc | ⟨g9, off, rfl, hg9, _, hg8, hc⟩
  · omega
  obtain ⟨_, e2, _⟩ := hc k hk
  obtain ⟨ow, how⟩ : ∃ ow, ts[k].2.1 = ow := ⟨_, rfl⟩
  have HOW := Lib.hid how
  rw [how] at e2
  have c_K1_0 := e2
  clear hc hnc how e2
  by_cases ht : ow = t
  rotate_left
  · have HT : Hid (ow ≠ t) := Lib.hid ht
    have hbt : (ow != t) = true := by simpa using ht
    clear ht
    go_enter Try.func23, Try.ntmps23
    have T_0 : Hid (Below w.heap.size w w) := Lib.hid (Below.refl _ _)
    go_wp2_with fail
    (with_reducible refine (S_l3Find _ _ _ _ ts key (r_A_0.out) hl).mono ?_)
    rintro e w9 ⟨rfl, rfl⟩
    rw [HZ.out]
    go_wp2_with fail
    (with_reducible refine (S_FlightsValid_q _ _ _ _ ts _ (r_A_0.out) hl HV.out).mono ?_)
    rintro e w1 ⟨rfl, hb⟩
    have c_K1_1 := cell_b (c_K1_0) hb
    have r_A_1 := Lib.hid (rdf_b (r_A_0.out) hb)
    have T_1 := Lib.hid (below_trans (T_0.out) hb)
    have z_1 : w.heap.size ≤ w1.heap.size := (by have := hb.size; (try simp at this); omega)
    have ac_K1_1 := fun o => cell_b (c_K1_1) (below_alloc _ o)
    have bc_K1_1 := fun o o1 => cell_b (ac_K1_1 o) (below_alloc _ o1)
    clear hb c_K1_0 r_A_0 T_0
    go_wp2_with fail
    refine bodyPost_ret (v := .tuple #[.slice (some ⟨w1.heap.size, 0, none⟩) 0 0, .slice (some ⟨w1.heap.size + 1, 0, none⟩) 0 0, .bool false]) (by simp [results, Try.results23, go_sem]) rfl ⟨[], _, _, [], _, _, false, fland_none (fun f hf h => by obtain ⟨x, hx, rfl⟩ := List.mem_map.1 hf; obtain ⟨i, hi, rfl⟩ := List.mem_iff_getElem.1 hx; have e := keys_one (fval_in HV.out).2.1 hi hk (h.1.trans HKY.out.symm); subst e; exact HT.out (HOW.out.symm.trans h.2)), rfl, ?_, ?_, below_trans (below_trans (T_1.out) (below_alloc _ _)) (below_alloc _ _)⟩
    · exact rdf_mono (rdf_b (owf_rdf (owf_made w1 _ w1.heap.size _ rfl (Nat.le_refl _))) (below_alloc _ _)) (by omega) (by simp) (Nat.le_refl _)
    · exact rdi_empty (own_rd (ow_made_at _ _ _ (by simp) (Nat.le_refl _)))
  have HT := Lib.hid ht
  have hbt : (ow != t) = false := by simpa using ht
  clear ht
  have HLD := Lib.hid (fland_yes HV.out hk HKY.out (HOW.out.trans HT.out))
  have hl6 := fval_sum HV.out
  have hl7 : ts.length + tsum ts ≤ 6 := by simpa [tsum] using hl6
  clear hl6
  go_enter Try.func23, Try.ntmps23
  have T_0 : Hid (Below w.heap.size w w) := Lib.hid (Below.refl _ _)
  go_wp2_with fail
  (with_reducible refine (S_l3Find _ _ _ _ ts key (r_A_0.out) hl).mono ?_)
  rintro e w9 ⟨rfl, rfl⟩
  rw [HZ.out]
  go_wp2_with fail
  (with_reducible refine (S_FlightsValid_q _ _ _ _ ts _ (r_A_0.out) hl HV.out).mono ?_)
  rintro e w1 ⟨rfl, hb⟩
  have c_K1_1 := cell_b (c_K1_0) hb
  have r_A_1 := Lib.hid (rdf_b (r_A_0.out) hb)
  have T_1 := Lib.hid (below_trans (T_0.out) hb)
  have z_1 : w.heap.size ≤ w1.heap.size := (by have := hb.size; (try simp at this); omega)
  have ac_K1_1 := fun o => cell_b (c_K1_1) (below_alloc _ o)
  have bc_K1_1 := fun o o1 => cell_b (ac_K1_1 o) (below_alloc _ o1)
  clear hb c_K1_0 r_A_0 T_0
  go_wp2_with fail
  (with_reducible refine (S_l3Copy _ _ _ _ ts (r_A_1.out) hl).mono ?_)
  rintro e w2 ⟨Ts, a1, cap1, rfl, hmp, hof, hb⟩
  have c_K1_2 := cell_b (c_K1_1) hb
  have r_A_2 := Lib.hid (rdf_b (r_A_1.out) hb)
  have T_2 := Lib.hid (below_trans (T_1.out) hb)
  have z_2 : w1.heap.size ≤ w2.heap.size := (by have := hb.size; (try simp at this); omega)
  have ac_K1_2 := fun o => cell_b (c_K1_2) (below_alloc _ o)
  have bc_K1_2 := fun o o1 => cell_b (ac_K1_2 o) (below_alloc _ o1)
  clear hb c_K1_1 r_A_1 T_1 ac_K1_1 bc_K1_1
  have r_o_2 := Lib.hid (owf_mono hof (show w.heap.size ≤ _ by omega) (Nat.le_refl _) (Nat.le_refl _))
  have HM := Lib.hid hmp
  have hTl : Ts.length = ts.length := len_eq hmp
  have hTs : Ts.length + tsum Ts ≤ 6 := by have := tsum_eq hmp; omega
  have HTL := Lib.hid hTl
  clear hTl hof hmp
  clear r_A_2 c_K1_2 ac_K1_2 bc_K1_2
  have hkT : k < Ts.length := by have := HTL.out; omega
  have hkT2 : (k : Int) < (Ts.length : Int) := by omega
  obtain ⟨gq, rfl⟩ := owf_some r_o_2.out (by omega)
  obtain ⟨_, _, c_Y2_2, _⟩ := owf_cells r_o_2.out rfl k hkT
  obtain ⟨xa, xc, hx3⟩ := own_shape (r_o_2.out.2.2.1 _ (List.getElem_mem hkT)).1
  have HX3 := Lib.hid hx3
  rw [hx3] at c_Y2_2
  obtain ⟨xn, hxn⟩ : ∃ xn, (fw Ts[k]).length = xn := ⟨_, rfl⟩
  have HXN := Lib.hid hxn
  rw [hxn] at c_Y2_2
  clear hx3 hxn
  have hcp : Ts.length ≤ cap1 := row_cap r_o_2.out.1
  have HONE := Lib.hid (owf_one r_o_2.out)
  have y1 : IntKind.i64.wrap ((k : Int) + 1) = (k : Int) + 1 := IntWalk.i64_in _ (by omega)
  have htn : ((k : Int) + 1).toNat = k + 1 := by omega
  have hb1 : (0 : Int) ≤ (k : Int) + 1 := by omega
  have hb2 : (k : Int) + 1 ≤ (Ts.length : Int) := by omega
  have hb3 : k + 1 ≤ Ts.length := by omega
  have hb4 : ¬ (cap1 = k) := by omega
  have hb5 : (k : Int) ≤ (cap1 : Int) := by omega
  have hb6 : k ≤ cap1 := by omega
  by_cases hcj : cap1 = k + 1
  · subst hcj
    have hTk : Ts.length - (k + 1) = 0 := by omega
    have hTk2 : Ts.length = k + 1 := by omega
    have HTK2 := Lib.hid hTk2
    clear hTk2
    have hb7 : (k : Int) ≤ (k : Int) + 1 := by omega
    have r_P_2 := Lib.hid (rdf_take (owf_rdf r_o_2.out) (Nat.le_of_lt hkT))
    have r_Q_2 := Lib.hid (by have h := rdf_drop (j := k + 1) (owf_rdf r_o_2.out) hkT 0 0 (.inr (by omega)) (by omega); rwa [hTk] at h)
    clear hTk
    go_wp2_with fail
    clear c_Y2_2
    go_region_held3 (fun _ => True) (trivial)
      (first | (refine step_append_rdx (w := w3) (by rfl) _ _ 25 rfl (w2.heap.size) 47 3 40 (.agg #[.int .i64 0, .int .i64 0, .slice none 0 0]) j0 Try.underlying25 hj hy0 hy1 hy2 rfl (by decide) (.slice a4 (k) c4) ((k)) (tcs ((Ts.take k))) rfl (o_n1_3.out) _ _ _ (tcs ((Ts.drop (k + 1)))) rfl (rdp_x (r_Q_3.out)) (drop_one (k + 1) HONE.out) (by first | (unfold maxLen; omega) | (unfold maxLen; simp; omega)) (by first | omega | (simp; omega)) (by first | omega | (simp; done) | (simp; omega)) ?_; intro v4 w4 hown hgr hloc; have ho : w4.ownsRow (w2.heap.size) 47 3 v4 ((k) + 0) (tcs ((Ts.take k) ++ (Ts.drop (k + 1)))) := (by rw [tcs_append]; exact hown); obtain ⟨a6, c6, hv⟩ := own_shape ho; subst hv; have iv_n2 : Hid (∀ g, (Value.slice a6 ((k) + 0) c6).ownBlock = some g → (w2.heap.size ≤ g ∧ g < w2.heap.size + 1) ∨ (w2.heap.size + 1 ≤ g ∧ g < w3.heap.size) ∨ (w3.heap.size ≤ g ∧ g < w4.heap.size)) := Lib.hid (fun g h => by have h9 := hgr.size; have h7 := own_hi ho g h; rcases hloc with h8 | h8 <;> rw [h8] at h <;> first | (have h1 := lo_n1.out g h; have h2 := hi_n1.out g h; have h5 := iv_n1.out g h; (try simp at h9); omega) | (injection h with h; (try simp at h9); (try simp at h); omega)); have r_o_4 := Lib.hid (owf_row (r_o_3.out) hgr (fun g h => by have h1 := lo_n1.out g h; have h2 := hi_n1.out g h; have h5 := iv_n1.out g h; omega)); have r_P_4 := Lib.hid (rdp_row (r_P_3.out) hgr (fun g h => by have h1 := lo_n1.out g h; have h2 := hi_n1.out g h; have h5 := iv_n1.out g h; omega)); have r_Q_4 := Lib.hid (rdp_row (r_Q_3.out) hgr (fun g h => by have h1 := lo_n1.out g h; have h2 := hi_n1.out g h; have h5 := iv_n1.out g h; omega)); have T_4 := Lib.hid (below_gr (T_3.out) (by first | omega | (simp; done) | (simp; omega)) hgr (fun g h => by have h1 := lo_n1.out g h; have h2 := hi_n1.out g h; have h5 := iv_n1.out g h; omega)); have z_4 : w3.heap.size ≤ w4.heap.size := (by have := hgr.size; (try simp at this); omega); have o_n2_4 := Lib.hid ho; have lo_n2 := Lib.hid (own_lo o_n2_4.out); have hi_n2 := Lib.hid (own_hi o_n2_4.out); clear hgr r_o_3 r_P_3 r_Q_3 T_3 hown ho hloc o_n1_3 lo_n1 hi_n1) | (refine step_append_rdx (w := ((w2).alloc (.cells #[] 47)).drew) (by rfl) _ _ 25 rfl (w2.heap.size) 47 3 40 (.agg #[.int .i64 0, .int .i64 0, .slice none 0 0]) j0 Try.underlying25 hj hy0 hy1 hy2 rfl (by decide) (.slice (some ⟨w2.heap.size, 0, none⟩) 0 0) (0) ([]) rfl (own_below ((owf_made (w2) _ (w2.heap.size) (w2.heap.size) (by first | rfl | simp) (Nat.le_refl _)).1) (drew_below _)) _ _ _ (tcs ((Ts.take k))) rfl (rdp_x (rdp_b (rdp_b (r_P_2.out) (below_alloc _ _)) (drew_below _))) (take_one k HONE.out) (by first | (unfold maxLen; omega) | (unfold maxLen; simp; omega)) (by first | omega | (simp; omega)) (by first | omega | (simp; done) | (simp; omega)) ?_; intro v3 w3 hown hgr hloc; have ho : w3.ownsRow (w2.heap.size) 47 3 v3 (k) (tcs ((Ts.take k))) := (by rw [Nat.zero_add, List.nil_append] at hown; exact hown); obtain ⟨a4, c4, hv⟩ := own_shape ho; subst hv; have iv_n1 : Hid (∀ g, (Value.slice a4 (k) c4).ownBlock = some g → (w2.heap.size ≤ g ∧ g < w2.heap.size + 1) ∨ (w2.heap.size + 1 ≤ g ∧ g < w3.heap.size)) := Lib.hid (fun g h => by have h9 := hgr.size; have h7 := own_hi ho g h; rcases hloc with h8 | h8 <;> rw [h8] at h <;> (simp only [Value.ownBlock, Option.some.injEq] at h; (try simp at h9); (try simp at h); omega)); have r_o_3 := Lib.hid (owf_row (owf_b (owf_b (r_o_2.out) (below_alloc _ _)) (drew_below _)) hgr (fun g h => by simp only [Value.ownBlock, Option.some.injEq] at h; omega)); have r_P_3 := Lib.hid (rdp_row (rdp_b (rdp_b (r_P_2.out) (below_alloc _ _)) (drew_below _)) hgr (fun g h => by simp only [Value.ownBlock, Option.some.injEq] at h; omega)); have r_Q_3 := Lib.hid (rdp_row (rdp_b (rdp_b (r_Q_2.out) (below_alloc _ _)) (drew_below _)) hgr (fun g h => by simp only [Value.ownBlock, Option.some.injEq] at h; omega)); have T_3 := Lib.hid (below_gr (below_trans (below_trans (T_2.out) (below_alloc _ _)) (drew_below _)) (by first | omega | (simp; done) | (simp; omega)) hgr (fun g h => by simp only [Value.ownBlock, Option.some.injEq] at h; omega)); have z_3 : w2.heap.size + 1 ≤ w3.heap.size := (by have := hgr.size; (try simp at this); omega); have o_n1_3 := Lib.hid ho; have lo_n1 := Lib.hid (own_lo o_n1_3.out); have hi_n1 := Lib.hid (own_hi o_n1_3.out); clear hgr r_o_2 r_P_2 r_Q_2 T_2 hown ho hloc) | fail)
    go_wp2_with fail
    have hRl : (Ts.take k ++ Ts.drop (k + 1)).length = ((k) + 0) := by simp; have := HTK2.out; omega
    have HRL := Lib.hid hRl
    clear hRl
    refine bodyPost_ret (v := .tuple #[.slice a6 ((k) + 0) c6, .slice xa xn xc, .bool true]) (by simp [results, Try.results23, go_sem]) rfl ⟨Ts.take k ++ Ts.drop (k + 1), a6, c6, fw Ts[k], xa, xc, true, ?_, by rw [HRL.out, HXN.out], ?_, ?_, (T_4.out)⟩
    · rw [HLD.out, erase_map Ts ts HM.out k]
      have e := congrArg (fun l => l[k]?) HM.out
      simp only [List.getElem?_map, List.getElem?_eq_getElem hkT, List.getElem?_eq_getElem hk, Option.map_some, Option.some.injEq, Prod.mk.injEq] at e
      rw [← e.2.2]
    · have h := erase_rdf (r_o_4.out) (o_n2_4.out) HRL.out.symm (by omega)
      rw [HRL.out]; exact rdf_mono h (Nat.le_refl _) (Nat.le_refl _) (Nat.le_refl _)
    · have h := owi_rdi ((r_o_4.out).2.2.1 _ (List.getElem_mem hkT))
      rw [HX3.out] at h
      rw [HXN.out] at h ⊢
      exact rdi_mono h (Nat.le_refl _) (r_o_4.out).2.2.2.2.2
  · have r_P_2 := Lib.hid (rdf_take (owf_rdf r_o_2.out) (Nat.le_of_lt hkT))
    have r_Q_2 := Lib.hid (rdf_drop (j := k + 1) (owf_rdf r_o_2.out) hkT ((k + 1) * 3) (cap1 - (k + 1)) (.inl (by omega)) (by omega))
    go_wp2_with fail
    clear c_Y2_2
    go_region_held3 (fun _ => True) (trivial)
      (first | (refine step_append_rdx (w := w3) (by rfl) _ _ 25 rfl (w2.heap.size) 47 3 40 (.agg #[.int .i64 0, .int .i64 0, .slice none 0 0]) j0 Try.underlying25 hj hy0 hy1 hy2 rfl (by decide) (.slice a4 (k) c4) ((k)) (tcs ((Ts.take k))) rfl (o_n1_3.out) _ _ _ (tcs ((Ts.drop (k + 1)))) rfl (rdp_x (r_Q_3.out)) (drop_one (k + 1) HONE.out) (by first | (unfold maxLen; omega) | (unfold maxLen; simp; omega)) (by first | omega | (simp; omega)) (by first | omega | (simp; done) | (simp; omega)) ?_; intro v4 w4 hown hgr hloc; have ho : w4.ownsRow (w2.heap.size) 47 3 v4 ((k) + (Ts.length - (k + 1))) (tcs ((Ts.take k) ++ (Ts.drop (k + 1)))) := (by rw [tcs_append]; exact hown); obtain ⟨a6, c6, hv⟩ := own_shape ho; subst hv; have iv_n2 : Hid (∀ g, (Value.slice a6 ((k) + (Ts.length - (k + 1))) c6).ownBlock = some g → (w2.heap.size ≤ g ∧ g < w2.heap.size + 1) ∨ (w2.heap.size + 1 ≤ g ∧ g < w3.heap.size) ∨ (w3.heap.size ≤ g ∧ g < w4.heap.size)) := Lib.hid (fun g h => by have h9 := hgr.size; have h7 := own_hi ho g h; rcases hloc with h8 | h8 <;> rw [h8] at h <;> first | (have h1 := lo_n1.out g h; have h2 := hi_n1.out g h; have h5 := iv_n1.out g h; (try simp at h9); omega) | (injection h with h; (try simp at h9); (try simp at h); omega)); have r_o_4 := Lib.hid (owf_row (r_o_3.out) hgr (fun g h => by have h1 := lo_n1.out g h; have h2 := hi_n1.out g h; have h5 := iv_n1.out g h; omega)); have r_P_4 := Lib.hid (rdp_row (r_P_3.out) hgr (fun g h => by have h1 := lo_n1.out g h; have h2 := hi_n1.out g h; have h5 := iv_n1.out g h; omega)); have r_Q_4 := Lib.hid (rdp_row (r_Q_3.out) hgr (fun g h => by have h1 := lo_n1.out g h; have h2 := hi_n1.out g h; have h5 := iv_n1.out g h; omega)); have T_4 := Lib.hid (below_gr (T_3.out) (by first | omega | (simp; done) | (simp; omega)) hgr (fun g h => by have h1 := lo_n1.out g h; have h2 := hi_n1.out g h; have h5 := iv_n1.out g h; omega)); have z_4 : w3.heap.size ≤ w4.heap.size := (by have := hgr.size; (try simp at this); omega); have o_n2_4 := Lib.hid ho; have lo_n2 := Lib.hid (own_lo o_n2_4.out); have hi_n2 := Lib.hid (own_hi o_n2_4.out); clear hgr r_o_3 r_P_3 r_Q_3 T_3 hown ho hloc o_n1_3 lo_n1 hi_n1) | (refine step_append_rdx (w := ((w2).alloc (.cells #[] 47)).drew) (by rfl) _ _ 25 rfl (w2.heap.size) 47 3 40 (.agg #[.int .i64 0, .int .i64 0, .slice none 0 0]) j0 Try.underlying25 hj hy0 hy1 hy2 rfl (by decide) (.slice (some ⟨w2.heap.size, 0, none⟩) 0 0) (0) ([]) rfl (own_below ((owf_made (w2) _ (w2.heap.size) (w2.heap.size) (by first | rfl | simp) (Nat.le_refl _)).1) (drew_below _)) _ _ _ (tcs ((Ts.take k))) rfl (rdp_x (rdp_b (rdp_b (r_P_2.out) (below_alloc _ _)) (drew_below _))) (take_one k HONE.out) (by first | (unfold maxLen; omega) | (unfold maxLen; simp; omega)) (by first | omega | (simp; omega)) (by first | omega | (simp; done) | (simp; omega)) ?_; intro v3 w3 hown hgr hloc; have ho : w3.ownsRow (w2.heap.size) 47 3 v3 (k) (tcs ((Ts.take k))) := (by rw [Nat.zero_add, List.nil_append] at hown; exact hown); obtain ⟨a4, c4, hv⟩ := own_shape ho; subst hv; have iv_n1 : Hid (∀ g, (Value.slice a4 (k) c4).ownBlock = some g → (w2.heap.size ≤ g ∧ g < w2.heap.size + 1) ∨ (w2.heap.size + 1 ≤ g ∧ g < w3.heap.size)) := Lib.hid (fun g h => by have h9 := hgr.size; have h7 := own_hi ho g h; rcases hloc with h8 | h8 <;> rw [h8] at h <;> (simp only [Value.ownBlock, Option.some.injEq] at h; (try simp at h9); (try simp at h); omega)); have r_o_3 := Lib.hid (owf_row (owf_b (owf_b (r_o_2.out) (below_alloc _ _)) (drew_below _)) hgr (fun g h => by simp only [Value.ownBlock, Option.some.injEq] at h; omega)); have r_P_3 := Lib.hid (rdp_row (rdp_b (rdp_b (r_P_2.out) (below_alloc _ _)) (drew_below _)) hgr (fun g h => by simp only [Value.ownBlock, Option.some.injEq] at h; omega)); have r_Q_3 := Lib.hid (rdp_row (rdp_b (rdp_b (r_Q_2.out) (below_alloc _ _)) (drew_below _)) hgr (fun g h => by simp only [Value.ownBlock, Option.some.injEq] at h; omega)); have T_3 := Lib.hid (below_gr (below_trans (below_trans (T_2.out) (below_alloc _ _)) (drew_below _)) (by first | omega | (simp; done) | (simp; omega)) hgr (fun g h => by simp only [Value.ownBlock, Option.some.injEq] at h; omega)); have z_3 : w2.heap.size + 1 ≤ w3.heap.size := (by have := hgr.size; (try simp at this); omega); have o_n1_3 := Lib.hid ho; have lo_n1 := Lib.hid (own_lo o_n1_3.out); have hi_n1 := Lib.hid (own_hi o_n1_3.out); clear hgr r_o_2 r_P_2 r_Q_2 T_2 hown ho hloc) | fail)
    go_wp2_with fail
    have hRl : (Ts.take k ++ Ts.drop (k + 1)).length = ((k) + (Ts.length - (k + 1))) := by simp; omega
    have HRL := Lib.hid hRl
    clear hRl
    refine bodyPost_ret (v := .tuple #[.slice a6 ((k) + (Ts.length - (k + 1))) c6, .slice xa xn xc, .bool true]) (by simp [results, Try.results23, go_sem]) rfl ⟨Ts.take k ++ Ts.drop (k + 1), a6, c6, fw Ts[k], xa, xc, true, ?_, by rw [HRL.out, HXN.out], ?_, ?_, (T_4.out)⟩
    · rw [HLD.out, erase_map Ts ts HM.out k]
      have e := congrArg (fun l => l[k]?) HM.out
      simp only [List.getElem?_map, List.getElem?_eq_getElem hkT, List.getElem?_eq_getElem hk, Option.map_some, Option.some.injEq, Prod.mk.injEq] at e
      rw [← e.2.2]
    · have h := erase_rdf (r_o_4.out) (o_n2_4.out) HRL.out.symm (by omega)
      rw [HRL.out]; exact rdf_mono h (Nat.le_refl _) (Nat.le_refl _) (Nat.le_refl _)
    · have h := owi_rdi ((r_o_4.out).2.2.1 _ (List.getElem_mem hkT))
      rw [HX3.out] at h
      rw [HXN.out] at h ⊢
      exact rdi_mono h (Nat.le_refl _) (r_o_4.out).2.2.2.2.2
end Go.Proofs.Ytafpnkcdoeicgaa
