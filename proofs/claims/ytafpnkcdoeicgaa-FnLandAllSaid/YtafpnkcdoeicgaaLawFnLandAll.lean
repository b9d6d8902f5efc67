/- The law FnLandAll: the walk. -/
import Derived.Test.YtafpnkcdoeicgaaLandFn
import Derived.Test.YtafpnkcdoeicgaaCalm
import Derived.Test.YtafpnkcdoeicgaaJoinI
import Derived.Deep.RegionHeld3
import Derived.Deep.DrawnRows
import Derived.Deep.RegionLaw
namespace Go.Proofs.Ytafpnkcdoeicgaa
open Go.RowKit
attribute [local go_sem ↓] Go.wp_at_zero Go.wp_at_succ
/-- At the head of the loop that counts. -/
def LaHead1 (w : World) (X : List FT) (vb vi : Value) (wr : World) : Prop :=
  ∃ k : Nat, k ≤ X.length ∧ vi = .int .i64 (k : Int) ∧ vb = .int .i64 (1 + (k : Int) + (tsum (X.take k) : Int)) ∧ wr = w
/-- A slice's length. -/
def slLen : Value → Nat | .slice _ n _ => n | _ => 0
/-- At the head of the loop that lands. -/
def LaHead2 (w : World) (N : Nat) (vx vn : Value) (wr : World) : Prop :=
  ∃ (R : List FT) (a : Option Addr) (cap B C : Nat), vx = .slice a R.length cap ∧ vn = .int .i64 ((N : Int) - (R.length : Int) - (tsum R : Int)) ∧ R.length + tsum R ≤ N ∧ fval (R.map fl) = true ∧ RdF wr B C (.slice a R.length cap) R ∧ Below w.heap.size w wr
theorem land_head {R : List FT} (h0 : 0 < R.length) (h : fval (R.map fl) = true) : fland (R.map fl) (R[0].1) (R[0].2.1) = ((R.drop 1).map fl, R[0].2.2.1, true) ∧ fval ((R.drop 1).map fl) = true ∧ R.length + tsum R = (R.drop 1).length + tsum (R.drop 1) + 1 + R[0].2.2.1.length := by
  obtain ⟨x, xs, rfl⟩ : ∃ x xs, R = x :: xs := by
    cases R with
    | nil => simp at h0
    | cons x xs => exact ⟨x, xs, rfl⟩
  exact ⟨fland_head h, fval_tail h, by simp [tsum, fsum]; omega⟩

set_option maxHeartbeats 4000000 in
set_option maxRecDepth 100000 in
theorem W_FnLandAll (w : World) (v : Value) (n : Nat) (hv : RdY w v n) (hm : n ≤ 9223372036854775807) :
    Calls Try.prog 10 #[v] w fun e w' => e = .returned (.bool true) ∧ Below w.heap.size w w' := by
  have HV := Lib.hid hv
  obtain ⟨a, cap, rfl, hcap, hnc, hr⟩ := hv
  clear hr hnc
  by_cases hbig : 1048576 < n
  · go_enter Try.func10, Try.ntmps10
    go_wp2
    go_ret
    exact ⟨rfl, Below.refl _ _⟩
  · go_enter Try.func10, Try.ntmps10
    have T_0 : Hid (Below w.heap.size w w) := Lib.hid (Below.refl _ _)
    go_wp2_with fail
    (with_reducible refine (S_DrawJoinFlight _ _ n HV.out (by omega)).mono ?_)
    rintro e w1 ⟨X, key, t, a1, c1, rfl, hX, hx, hb⟩
    have T_1 := Lib.hid (below_trans (T_0.out) hb)
    have z_1 : w.heap.size ≤ w1.heap.size := (by have := hb.size; (try simp at this); omega)
    have r_x_1 := Lib.hid (rdf_mono hx (show w.heap.size ≤ _ by first | omega | (simp; done) | (simp; omega)) (Nat.le_refl _) (Nat.le_refl _))
    clear hb T_0 hx
    go_wp2_with fail
    (with_reducible refine (I_JoinFlight _ _ _ _ X key t (r_x_1.out) (by omega)).mono ?_)
    rintro e w2 ⟨Rr, ar, cr, ffr, kr, hjr, rfl, hof, hb⟩
    have r_x_2 := Lib.hid (rdf_b (r_x_1.out) hb)
    have T_2 := Lib.hid (below_trans (T_1.out) hb)
    have z_2 : w1.heap.size ≤ w2.heap.size := (by have := hb.size; (try simp at this); omega)
    have HJr := Lib.hid hjr
    have hzr : Rr.length + tsum Rr ≤ X.length + tsum X + 1 := (by have h := fjoin_sum (X.map fl) key t; rw [hjr] at h; simpa [tsum] using h)
    clear hb r_x_1 T_1 hjr
    have r_r_2 := Lib.hid (rdf_mono (owf_rdf hof) (Nat.le_refl _) (Nat.le_refl _) (Nat.le_refl _))
    clear hof
    go_wp2_with fail
    (with_reducible refine (S_JoinFlight _ _ _ _ X key t (r_x_2.out) (by omega)).mono ?_)
    rintro e w3 ⟨Rv, av, cv, ffv, kv, hjv, rfl, hof, hb⟩
    have r_x_3 := Lib.hid (rdf_b (r_x_2.out) hb)
    have r_r_3 := Lib.hid (rdf_b (r_r_2.out) hb)
    have T_3 := Lib.hid (below_trans (T_2.out) hb)
    have z_3 : w2.heap.size ≤ w3.heap.size := (by have := hb.size; (try simp at this); omega)
    have HJv := Lib.hid hjv
    have hzv : Rv.length + tsum Rv ≤ X.length + tsum X + 1 := (by have h := fjoin_sum (X.map fl) key t; rw [hjv] at h; simpa [tsum] using h)
    clear hb r_x_2 r_r_2 T_2 hjv
    have r_v_3 := Lib.hid (rdf_mono (owf_rdf hof) (Nat.le_refl _) (Nat.le_refl _) (Nat.le_refl _))
    clear hof
    have hq : (Rr.map fl, ffr, kr) = (Rv.map fl, ffv, kv) := by rw [← HJr.out, ← HJv.out]
    simp only [Prod.mk.injEq] at hq
    obtain ⟨hq, rfl, rfl⟩ := hq
    have HQ := Lib.hid hq
    clear hq
    go_wp2_with fail
    (with_reducible refine (I_FlightsSame_q _ _ _ _ _ _ _ Rr Rv (true) (r_r_3.out) (r_v_3.out) (by omega) (by omega) (by rw [HQ.out]; exact eqL_self _)).mono ?_)
    rintro e w4 ⟨rfl, hb⟩
    have r_x_4 := Lib.hid (rdf_b (r_x_3.out) hb)
    have r_r_4 := Lib.hid (rdf_b (r_r_3.out) hb)
    have r_v_4 := Lib.hid (rdf_b (r_v_3.out) hb)
    have T_4 := Lib.hid (below_trans (T_3.out) hb)
    have z_4 : w3.heap.size ≤ w4.heap.size := (by have := hb.size; (try simp at this); omega)
    clear hb r_x_3 r_r_3 r_v_3 T_3
    rcases kr with _ | _
    · go_wp2_with fail
      (with_reducible refine (I_FlightsSame_q _ _ _ _ _ _ _ Rr Rv (true) (r_r_4.out) (r_v_4.out) (by omega) (by omega) (by rw [HQ.out]; exact eqL_self _)).mono ?_)
      rintro e w5 ⟨rfl, hb⟩
      have r_x_5 := Lib.hid (rdf_b (r_x_4.out) hb)
      have r_r_5 := Lib.hid (rdf_b (r_r_4.out) hb)
      have r_v_5 := Lib.hid (rdf_b (r_v_4.out) hb)
      have T_5 := Lib.hid (below_trans (T_4.out) hb)
      have z_5 : w4.heap.size ≤ w5.heap.size := (by have := hb.size; (try simp at this); omega)
      clear hb r_x_4 r_r_4 r_v_4 T_4
      go_wp2_with fail
      go_ret
      exact ⟨rfl, (T_5.out)⟩
    · clear r_v_4
      obtain ⟨hok, hrv⟩ := fjoin_ok HJr.out
      have HRV := Lib.hid hrv
      have hsm := fjoin_sum_eq HJr.out
      have HSM : Hid (Rr.length + tsum Rr = X.length + tsum X + 1) := Lib.hid (by simpa [tsum] using hsm)
      clear hok hrv hsm
      go_wp2
      go_loopw [13, 14] (fun vb vi wr => LaHead1 w4 X vb vi wr) (fun _ i _ => X.length - (intOf i).toNat)
      case atStart => exact ⟨0, Nat.zero_le _, rfl, by simp [tsum, fsum], rfl⟩
      case round =>
        obtain ⟨k, hk, rfl, rfl, rfl⟩ := hrel
        have hts := tsum_take_le X k
        obtain ⟨s, hs⟩ : ∃ s, tsum (X.take k) = s := ⟨_, rfl⟩
        rw [hs] at hts ⊢
        have HS := Lib.hid hs
        clear hs
        by_cases hlt : k < X.length
        · obtain ⟨a9, c9, e9, hcap, hnc, hc⟩ := rdf_cells (r_x_4.out)
          simp only [Value.slice.injEq, true_and] at e9
          obtain ⟨rfl, rfl⟩ := e9
          rcases hc with hc | ⟨gx, ox, rfl, _, _, _, hc⟩
          · omega
          obtain ⟨e1, e2, e3⟩ := hc k hlt
          obtain ⟨xa, xc, hx3⟩ := rd_sl (rdf_rd (r_x_4.out) hlt)
          rw [hx3] at e3
          have hnx := tsum_take_succ hlt
          have HNX := Lib.hid hnx
          have hts2 := tsum_take_le X (k + 1)
          rw [hnx, HS.out] at hts2
          obtain ⟨p, hp⟩ : ∃ p, X[k].2.2.1.length = p := ⟨_, rfl⟩
          have HP := Lib.hid hp
          rw [hp] at e3 hts2
          clear hc hx3 hnc hp hnx e1 e2
          have y1 : IntKind.i64.wrap (1 + (k : Int) + (s : Int) + 1) = 1 + (k : Int) + (s : Int) + 1 := IntWalk.i64_in _ (by omega)
          have y2 : IntKind.i64.wrap (1 + (k : Int) + (s : Int) + 1 + (p : Int)) = 1 + (k : Int) + (s : Int) + 1 + (p : Int) := IntWalk.i64_in _ (by omega)
          go_wp2_with fail
          go_roundw
          case rel => exact ⟨k + 1, by omega, by go_num, by rw [HNX.out, HS.out, HP.out]; congr 1; push_cast; omega, rfl⟩
          case measure => simp [intOf]; omega
        · obtain rfl : k = X.length := by omega
          have hsx : s = tsum X := by rw [← HS.out, List.take_length]
          subst hsx
          clear hlt hk HS
          obtain ⟨N, hN⟩ : ∃ N, Rr.length + tsum Rr = N := ⟨_, rfl⟩
          have hNX : N = X.length + tsum X + 1 := by rw [← hN]; exact HSM.out
          have hN8 : N ≤ 7 := by omega
          have HNX := Lib.hid hNX
          have HN := Lib.hid hN
          clear hN hNX HSM hzr
          go_wp2
          go_loopw [6, 12, 15, 16, 17] (fun vx vn _ _ _ wr => LaHead2 w N vx vn wr) (fun x _ _ _ _ _ => slLen x)
          case atStart => exact ⟨Rr, _, _, _, _, rfl, by have := HN.out; congr 1; omega, by have := HN.out; omega, HRV.out, r_r_4.out, (T_4.out)⟩
          case round =>
            obtain ⟨R, a5, c5, B5, C5, rfl, rfl, hle, hfv, hrd, hbel⟩ := hrel
            by_cases hR0 : R.length = 0
            · have hR1 : R = [] := List.eq_nil_of_length_eq_zero hR0
              subst hR1
              have HB := Lib.hid hbel
              clear hrd hfv hbel hle
              obtain ⟨u, hu⟩ : ∃ u : Int, (N : Int) - (([] : List FT).length : Int) - (tsum ([] : List FT) : Int) = u := ⟨_, rfl⟩
              rw [hu]
              have hun : u = 1 + (X.length : Int) + (tsum X : Int) := by rw [← hu]; have h := HNX.out; simp [tsum, fsum] at h ⊢; omega
              clear hu
              subst hun
              go_wp2
              go_ret
              exact ⟨rfl, HB.out⟩
            · have hR1 : 0 < R.length := by omega
              have hR2 : (0 : Int) < (R.length : Int) := by omega
              obtain ⟨hl1, hl2, hl3⟩ := land_head hR1 hfv
              have HL1 := Lib.hid hl1
              have HL2 := Lib.hid hl2
              have HL3 := Lib.hid hl3
              obtain ⟨w24, rfl⟩ : ∃ wo : World, wo = wr := ⟨_, rfl⟩
              obtain ⟨a9, c9, e9, hcap, hnc, hc⟩ := rdf_cells hrd
              simp only [Value.slice.injEq, true_and] at e9
              obtain ⟨rfl, rfl⟩ := e9
              rcases hc with hc | ⟨gx, ox, rfl, _, _, _, hc⟩
              · omega
              obtain ⟨e1, e2, _⟩ := hc 0 hR1
              simp only [Nat.zero_mul, Nat.add_zero] at e1 e2
              obtain ⟨p, hp⟩ : ∃ p, R[0].1 = p := ⟨_, rfl⟩
              obtain ⟨q, hq⟩ : ∃ q, R[0].2.1 = q := ⟨_, rfl⟩
              obtain ⟨W, hW⟩ : ∃ W, R[0].2.2.1 = W := ⟨_, rfl⟩
              rw [hp] at e1
              rw [hq] at e2
              have HLD : Hid (fland (R.map fl) p q = ((R.drop 1).map fl, W, true)) := Lib.hid (by rw [← hp, ← hq, ← hW]; exact HL1.out)
              have HLW : Hid (R.length + tsum R = (R.drop 1).length + tsum (R.drop 1) + 1 + W.length) := Lib.hid (by rw [← hW]; exact HL3.out)
              have r_r_24 := Lib.hid hrd
              have c_Z0_24 := e1
              have c_Z1_24 := e2
              have T_24 := Lib.hid hbel
              have hbz := hbel.size
              clear hl1 hl2 hl3 HL1 HL3 hc hnc e1 e2 hrd hbel hp hq hW hfv
              go_wp2_with fail
              go_region_held3 (fun w' => w'.cell? ⟨gx, ox, none⟩ = some (.int .i64 p) ∧ w'.cell? ⟨gx, ox + 1, none⟩ = some (.int .i64 q)) (first | with_reducible exact ⟨c_Z0_24, c_Z1_24⟩ | with_reducible exact ⟨cell_b (c_Z0_24) (drew_below _), cell_b (c_Z1_24) (drew_below _)⟩ | with_reducible exact ⟨c_Z0_25, c_Z1_25⟩ | go_keep)
                (first | (go_at_call 24; (with_reducible refine (I_LandFlight_s _ _ _ _ R p q (rdf_b (r_r_24.out) (drew_below _)) (by omega)).mono ?_); rintro e w25 ⟨Rp, ap, cp, Lp, bp, dp, kp, hjp, rfl, hr, hi, hb⟩; have c_Z0_25 := cell_b (cell_b (c_Z0_24) (drew_below _)) hb; have c_Z1_25 := cell_b (cell_b (c_Z1_24) (drew_below _)) hb; have r_r_25 := Lib.hid (rdf_b (rdf_b (r_r_24.out) (drew_below _)) hb); have T_25 := Lib.hid (below_trans (below_trans (T_24.out) (drew_below _)) hb); have z_25 : w24.heap.size ≤ w25.heap.size := (by have := hb.size; (try simp at this); omega); have r_p_25 := Lib.hid (rdf_mono hr (show w24.heap.size ≤ _ by first | omega | (simp; done) | (simp; omega)) (Nat.le_refl _) (Nat.le_refl _)); have HJp := Lib.hid hjp; have hzp : Rp.length + tsum Rp + Lp.length ≤ R.length + tsum R := (by have h := fland_sum hjp; simp only [List.length_map] at h; have h2 : fsum (Rp.map fl) = tsum Rp := rfl; have h3 : fsum (R.map fl) = tsum R := rfl; omega); have ac_Z0_25 := fun o => cell_b (c_Z0_25) (below_alloc _ o); have ac_Z1_25 := fun o => cell_b (c_Z1_25) (below_alloc _ o); clear hb c_Z0_24 c_Z1_24 r_r_24 T_24 hr hjp; have r_pI_25 := Lib.hid hi; clear hi))
              have e := HLD.out.symm.trans HJp.out
              simp only [Prod.mk.injEq] at e
              obtain ⟨hm9, rfl, rfl⟩ := e
              have HM9 := Lib.hid hm9
              have HFV2 : Hid (fval (Rp.map fl) = true) := Lib.hid (by rw [← hm9]; exact HL2.out)
              have hlp : Rp.length + 1 = R.length := by have h := congrArg List.length hm9; simp only [List.length_map, List.length_drop] at h; omega
              have htp : tsum Rp = tsum (R.drop 1) := (tsum_eq hm9).symm
              have hW9 : R.length + tsum R = Rp.length + tsum Rp + 1 + W.length := by have h := HLW.out; simp only [List.length_drop] at h; omega
              have HW9 := Lib.hid hW9
              have HLP := Lib.hid hlp
              have hWN : W.length + 1 ≤ N := by omega
              clear hm9 HLD HLW HJp HL2 hzp
              obtain ⟨m, hm⟩ : ∃ m, W.length = m := ⟨_, rfl⟩
              rw [hm] at hWN ⊢
              have HMM := Lib.hid hm
              obtain ⟨u, hu⟩ : ∃ u : Int, (N : Int) - (R.length : Int) - (tsum R : Int) = u := ⟨_, rfl⟩
              have hu0 : 0 ≤ u ∧ u ≤ 7 := by omega
              obtain ⟨hu1, hu2⟩ := hu0
              rw [hu]
              have HU := Lib.hid hu
              clear hlp htp hW9 hm hu
              have y1 : IntKind.i64.wrap (u + 1) = u + 1 := IntWalk.i64_in _ (by omega)
              have y2 : IntKind.i64.wrap (u + 1 + (m : Int)) = u + 1 + (m : Int) := IntWalk.i64_in _ (by omega)
              go_wp2_with fail
              go_roundw
              case rel => exact ⟨Rp, _, _, _, _, rfl, by have h1 := HW9.out; have h2 := HU.out; have h3 := HMM.out; congr 1; omega, by have h1 := HW9.out; omega, HFV2.out, r_p_25.out, T_25.out⟩
              case measure => simp [slLen]; have := HLP.out; omega
end Go.Proofs.Ytafpnkcdoeicgaa
