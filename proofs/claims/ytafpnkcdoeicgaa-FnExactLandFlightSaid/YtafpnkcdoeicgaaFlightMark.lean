/- markFlightS, heldFlightS. -/
import Derived.Test.YtafpnkcdoeicgaaFlightOwn
import Derived.Test.YtafpnkcdoeicgaaFlight
namespace Go.Proofs.Ytafpnkcdoeicgaa
open Go.RowKit

/-- Flights with marks for values. -/
def mkF (k : Int) : List FT → List FT
  | [] => []
  | x :: xs => (k, k + 1, marks (k + 2) (fw x).length, fv x) :: mkF (k + 2 + ((fw x).length : Int)) xs
theorem mkF_len : ∀ (ts : List FT) (k : Int), (mkF k ts).length = ts.length
  | [], _ => rfl
  | x :: xs, k => by simp [mkF, mkF_len xs]
theorem mkF_append : ∀ (a b : List FT) (k : Int), mkF k (a ++ b) = mkF k a ++ mkF (k + 2 * (a.length : Int) + (tsum a : Int)) b
  | [], b, k => by simp [mkF, tsum, fsum]
  | x :: xs, b, k => by
    have e : k + 2 + ((fw x).length : Int) + 2 * (xs.length : Int) + (tsum xs : Int) = k + 2 * ((x :: xs).length : Int) + (tsum (x :: xs) : Int) := by
      simp only [tsum, List.map_cons, fsum, List.length_cons, fw]; omega
    rw [List.cons_append, mkF, mkF_append xs b, mkF, List.cons_append, e]
theorem mkF_take_succ {ts : List FT} {j : Nat} (h : j < ts.length) (k : Int) :
    mkF k (ts.take (j + 1)) = mkF k (ts.take j) ++ [(k + 2 * (j : Int) + (tsum (ts.take j) : Int), k + 2 * (j : Int) + (tsum (ts.take j) : Int) + 1, marks (k + 2 * (j : Int) + (tsum (ts.take j) : Int) + 2) ts[j].2.2.1.length, ts[j].2.2.2)] := by
  rw [List.take_succ_eq_append_getElem h, mkF_append, List.length_take, Nat.min_eq_left (Nat.le_of_lt h)]
  rfl
section
variable {w w' : World} {T B C g n cap : Nat} {L1 L2 : List FT} {x : FT}
/-- A flight's key, owner and values are overwritten where they lie. -/
theorem owf_mark {a b : Int} {ys : List Int} (h : OwF w T B C (.slice (some ⟨g, 0, none⟩) n cap) (L1 ++ x :: L2)) (hn : n = (L1 ++ x :: L2).length) {j : Nat} (hj : j = L1.length)
    (hg : ((w.setCell ⟨g, j * 3, none⟩ (.int .i64 a)).setCell ⟨g, j * 3 + 1, none⟩ (.int .i64 b)).grownBy w' (fv x).ownBlock) (ho : Ow w' B (fv x) ys) :
    OwF w' T B C (.slice (some ⟨g, 0, none⟩) n cap) (L1 ++ (a, b, ys, fv x) :: L2) := by
  subst hn; subst hj
  obtain ⟨h1, h2, h3, h4, h5, h6⟩ := h
  have hx : x ∈ L1 ++ x :: L2 := by simp
  have hs := hg.size
  have hlen : (L1 ++ (a, b, ys, fv x) :: L2).length = (L1 ++ x :: L2).length := by simp
  have hcs : ((tcs (L1 ++ x :: L2)).set (L1.length * 3) (.int .i64 a)).set (L1.length * 3 + 1) (.int .i64 b) = tcs (L1 ++ (a, b, ys, fv x) :: L2) := by
    have el : (tcs L1).length = L1.length * 3 := tcs_len L1
    rw [tcs_append, tcs_append, List.set_append_right _ _ (by omega), el, Nat.sub_self, List.set_append_right _ _ (by omega), el, Nat.add_sub_cancel_left]
    rfl
  have hr2 : ((w.setCell ⟨g, L1.length * 3, none⟩ (.int .i64 a)).setCell ⟨g, L1.length * 3 + 1, none⟩ (.int .i64 b)).ownsRow B T 3 (.slice (some ⟨g, 0, none⟩) (L1 ++ x :: L2).length cap) (L1 ++ x :: L2).length (tcs (L1 ++ (a, b, ys, fv x) :: L2)) := by
    rw [← hcs]
    exact ((h1.stored (L1.length * 3) (.int .i64 a)).1.stored (L1.length * 3 + 1) (.int .i64 b)).1
  have hxg : ∀ k, (fv x).ownBlock = some k → k ≠ g := fun k hk => h4 x hx g k rfl hk
  obtain ⟨p1, p2, p3⟩ := List.pairwise_append.1 (by rw [List.map_append, List.map_cons] at h5; exact h5)
  obtain ⟨p4, _⟩ := List.pairwise_cons.1 p2
  have hold : ∀ t ∈ L1 ++ x :: L2, (∀ k k', (fv x).ownBlock = some k → (fv t).ownBlock = some k' → k' ≠ k) → OwI w' B C (fv t) (fw t) := fun t ht hne => by
    have o1 := h3 t ht
    have hg1 : ∀ k, (fv t).ownBlock = some k → k ≠ g := fun k hk => h4 t ht g k rfl hk
    refine ⟨own_gr (own_gr (own_gr o1.1 (gr_set w _ _) (fun k k' e e' => ?_)) (gr_set _ _ _) (fun k k' e e' => ?_)) hg hne, o1.2⟩
    · injection e with e; subst e; exact hg1 k' e'
    · injection e with e; subst e; exact hg1 k' e'
  refine ⟨?_, h2, fun t ht => ?_, fun t ht => ?_, ?_, ?_⟩
  · rw [hlen]
    exact own_gr hr2 hg (fun k k' e e' => by simp only [Value.ownBlock, Option.some.injEq] at e'; subst e'; exact (hxg k e).symm)
  · simp only [List.mem_append, List.mem_cons] at ht
    rcases ht with ht | rfl | ht
    · exact hold t (by simp [ht]) (fun k k' e e' => fun e2 => p3 (fv t) (List.mem_map.2 ⟨t, ht, rfl⟩) (fv x) (by simp) k' k e' e e2.symm)
    · exact ⟨ho, (h3 x hx).2⟩
    · exact hold t (by simp [ht]) (fun k k' e e' => p4 (fv t) (List.mem_map.2 ⟨t, ht, rfl⟩) k k' e e')
  · simp only [List.mem_append, List.mem_cons] at ht
    rcases ht with ht | rfl | ht
    · exact h4 t (by simp [ht])
    · exact h4 x hx
    · exact h4 t (by simp [ht])
  · rw [List.map_append, List.map_cons] at h5 ⊢; exact h5
  · exact Nat.le_trans h6 (by simpa [World.setCell] using hs)
end
theorem mark_step {ts : List FT} {j : Nat} (h : j < ts.length) (k : Int) : mkF k (ts.take j) ++ ts.drop j = mkF k (ts.take j) ++ ts[j] :: ts.drop (j + 1) := by
  rw [List.drop_eq_getElem_cons h]

set_option maxHeartbeats 1000000 in
theorem L_markFlightS (w : World) (B C : Nat) (v : Value) (ts : List FT) (k : Int) (hr : OwF w 47 B C v ts) (hl : ts.length + tsum ts ≤ 4294967296) (hk0 : 0 ≤ k) (hk1 : k ≤ 274877906944) :
    Calls Try.prog 21 #[v, .int .i64 k] w fun e w' => e = .returned (.int .i64 (k + 2 * (ts.length : Int) + (tsum ts : Int))) ∧ OwF w' 47 B C v (mkF k ts) ∧ Fr w w' B C := by
  obtain ⟨a, cap, hv⟩ := own_shape hr.1
  subst hv
  rcases owf_form hr with ⟨rfl, h0, rfl, rfl⟩ | ⟨g, rfl⟩
  · go_enter Try.func21, Try.ntmps21
    go_wp2
    refine wp_loop_rounds 1 ?_
    rw [rounds_succ]
    go_wp2
    go_ret
    exact ⟨by simp [tsum, fsum], hr, fr_refl _ _ _⟩
  · have HG : Hid (B ≤ g ∧ g < C) := Lib.hid ⟨own_lo hr.1 g rfl, hr.2.1 g rfl⟩
    go_enter Try.func21, Try.ntmps21
    go_wp2
    go_loopw [1, 5] (fun q i wr => ∃ j : Nat, j ≤ ts.length ∧ i = .int .i64 (j : Int) ∧ q = .int .i64 (k + 2 * (j : Int) + (tsum (ts.take j) : Int)) ∧ OwF wr 47 B C (.slice (some ⟨g, 0, none⟩) ts.length cap) (mkF k (ts.take j) ++ ts.drop j) ∧ Fr w wr B C) (fun _ i _ => ts.length - (intOf i).toNat)
    case atStart => exact ⟨0, Nat.zero_le _, rfl, by simp [tsum, fsum], by simpa [mkF] using hr, fr_refl _ _ _⟩
    case round =>
      obtain ⟨j, hj, rfl, rfl, hown, hfr⟩ := hrel
      clear hr
      have HF := Lib.hid hfr
      clear hfr
      by_cases hlt : j < ts.length
      · have hlm : (mkF k (ts.take j)).length = j := by rw [mkF_len]; simp; omega
        have hts := tsum_take_le ts j
        have hts1 := tsum_take_le ts (j + 1)
        rw [tsum_take_succ hlt] at hts1
        rw [mark_step hlt] at hown
        have HTS := Lib.hid (tsum_take_succ hlt)
        have HMK := Lib.hid (mkF_take_succ hlt k)
        obtain ⟨X, hX⟩ : ∃ X : FT, ts[j] = X := ⟨_, rfl⟩
        rw [hX] at hown hts1
        obtain ⟨c, hc⟩ : ∃ c : Nat, tsum (ts.take j) = c := ⟨_, rfl⟩
        have HC := Lib.hid hc
        rw [hc] at hts hts1 ⊢
        have hnl : ts.length = (mkF k (ts.take j) ++ X :: ts.drop (j + 1)).length := by simp [hlm]; omega
        have hjl : j < (mkF k (ts.take j) ++ X :: ts.drop (j + 1)).length := by omega
        have hgt : (mkF k (ts.take j) ++ X :: ts.drop (j + 1))[j] = X := by
          rw [List.getElem_append_right (by omega)]; simp [hlm]
        obtain ⟨c0, c1, c2, _⟩ := owf_cells hown hnl j hjl
        rw [hgt] at c0 c1 c2
        have f0 : wr.frozen? ⟨g, j * 3, none⟩ = false := (by have h := hown.1; rw [← hnl] at h; exact h.frozenAt _)
        have f1 : wr.frozen? ⟨g, j * 3 + 1, none⟩ = false := (by have h := hown.1; rw [← hnl] at h; exact h.frozenAt _)
        have hin := hown.2.2.1 X (by simp)
        have hne := hown.2.2.2.1 X (by simp)
        have HOWN := Lib.hid hown
        obtain ⟨xa, xc, hx3⟩ := own_shape hin.1
        obtain ⟨xk, xo, xs, xv⟩ := X
        simp only [fv, fw] at c0 c1 c2 hx3 hin hne hts1
        subst hx3
        have HX := Lib.hid hX
        have HINB := Lib.hid (fun a e => (⟨own_lo hin.1 a e, hin.2 a e⟩ : B ≤ a ∧ a < C))
        have HIN := Lib.hid (own_gr (own_gr hin.1 (gr_set wr ⟨g, j * 3, none⟩ (.int .i64 (k + 2 * (j : Int) + (c : Int)))) (fun a b e e' => by injection e with e; subst e; exact hne _ _ rfl e')) (gr_set _ ⟨g, j * 3 + 1, none⟩ (.int .i64 (k + 2 * (j : Int) + (c : Int) + 1))) (fun a b e e' => by injection e with e; subst e; exact hne _ _ rfl e'))
        have y1 : IntKind.i64.wrap (k + 2 * (j : Int) + (c : Int) + 1) = k + 2 * (j : Int) + (c : Int) + 1 := IntWalk.i64_in _ (by omega)
        have y2 : IntKind.i64.wrap (k + 2 * (j : Int) + (c : Int) + 1 + 1) = k + 2 * (j : Int) + (c : Int) + 1 + 1 := IntWalk.i64_in _ (by omega)
        have HNL := Lib.hid hnl
        have HLM := Lib.hid hlm
        clear hown hin hne hX hc hgt hnl hlm hjl
        go_wp2_with fail
        refine (L_markIntS _ B _ xs _ HIN.out (by omega) (by omega) (by omega)).mono ?_
        rintro e w9 ⟨rfl, ho, hg⟩
        rw [show k + 2 * (j : Int) + (c : Int) + 1 + 1 = k + 2 * (j : Int) + (c : Int) + 2 by omega] at ho ⊢
        have HOF := Lib.hid (owf_mark (x := (xk, xo, xs, .slice xa xs.length xc)) HOWN.out HNL.out HLM.out.symm hg ho)
        have HFR := Lib.hid (fr_trans HF.out (fr_trans (fr_set wr ⟨g, j * 3, none⟩ (.int .i64 (k + 2 * (j : Int) + (c : Int))) HG.out) (fr_trans (fr_set _ ⟨g, j * 3 + 1, none⟩ (.int .i64 (k + 2 * (j : Int) + (c : Int) + 1)) HG.out) (fr_gr hg (fun a e => HINB.out a e)))))
        have HE : Hid ((tsum (ts.take (j + 1)) : Int) = (c : Int) + (xs.length : Int)) := Lib.hid (by rw [HTS.out, HC.out, HX.out]; simp)
        clear ho hg
        go_wp2_with fail
        go_roundw
        case rel =>
          refine ⟨j + 1, by omega, by go_num, by rw [HE.out]; go_num, ?_, HFR.out⟩
          rw [HMK.out, HX.out, HC.out, List.append_assoc]
          exact HOF.out
        case measure => simp [intOf]; omega
      · obtain rfl : j = ts.length := by omega
        rw [List.drop_of_length_le (Nat.le_refl _), List.append_nil, List.take_of_length_le (Nat.le_refl _)] at hown
        have HOWN := Lib.hid hown
        clear hown
        rw [List.take_of_length_le (Nat.le_refl _)]
        go_wp2
        go_ret
        exact ⟨rfl, HOWN.out, HF.out⟩

theorem mkF_get {ts : List FT} {j : Nat} (h : j < ts.length) (k : Int) (hj : j < (mkF k ts).length) : (mkF k ts)[j] = (k + 2 * (j : Int) + (tsum (ts.take j) : Int), k + 2 * (j : Int) + (tsum (ts.take j) : Int) + 1, marks (k + 2 * (j : Int) + (tsum (ts.take j) : Int) + 2) ts[j].2.2.1.length, ts[j].2.2.2) := by
  have e : mkF k ts = mkF k (ts.take (j + 1)) ++ mkF (k + 2 * ((ts.take (j + 1)).length : Int) + (tsum (ts.take (j + 1)) : Int)) (ts.drop (j + 1)) := by rw [← mkF_append, List.take_append_drop]
  have hl : (mkF k (ts.take j)).length = j := by rw [mkF_len]; simp; omega
  rw [mkF_take_succ h] at e
  simp only [e]
  rw [List.getElem_append_left (by simp [hl]), List.getElem_append_right (by omega)]
  simp [hl]
set_option maxHeartbeats 1000000 in
theorem L_heldFlightS (w : World) (B C : Nat) (v : Value) (ts : List FT) (k : Int) (hr : RdF w B C v (mkF k ts)) (hl : ts.length + tsum ts ≤ 4294967296) (hk0 : 0 ≤ k) (hk1 : k ≤ 274877906944) :
    Calls Try.prog 22 #[v, .int .i64 k] w fun e w' => e = .returned (.int .i64 (k + 2 * (ts.length : Int) + (tsum ts : Int))) ∧ w = w' := by
  obtain ⟨a, cap, rfl, hcap, hnc, hc0⟩ := rdf_cells hr
  rw [mkF_len] at hcap ⊢
  have HR := Lib.hid hr
  have HC0 := Lib.hid hc0
  clear hr hc0 hnc
  go_enter Try.func22, Try.ntmps22
  go_wp2
  go_loop [1, 5] (fun q i => ∃ j : Nat, j ≤ ts.length ∧ i = .int .i64 (j : Int) ∧ q = .int .i64 (k + 2 * (j : Int) + (tsum (ts.take j) : Int))) (fun _ i => ts.length - (intOf i).toNat)
  case atStart => exact ⟨0, Nat.zero_le _, rfl, by simp [tsum, fsum]⟩
  case round =>
    obtain ⟨j, hj, rfl, rfl⟩ := hrel
    by_cases hlt : j < ts.length
    · rcases HC0.out with hc | ⟨g, off, rfl, hg, _, _, hc⟩
      · rw [mkF_len] at hc; omega
      have hlm : j < (mkF k ts).length := by rw [mkF_len]; exact hlt
      have hts := tsum_take_le ts j
      have hts1 := tsum_take_le ts (j + 1)
      rw [tsum_take_succ hlt] at hts1
      have HTS := Lib.hid (tsum_take_succ hlt)
      have HRD := Lib.hid (rdf_rd HR.out hlm)
      obtain ⟨e1, e2, e3⟩ := hc j hlm
      obtain ⟨xa, xc, hx3⟩ := rd_sl HRD.out
      rw [mkF_get hlt k hlm] at e1 e2 e3 hx3
      have hrd := HRD.out
      rw [mkF_get hlt k hlm] at hrd
      simp only at e1 e2 e3 hx3 hrd
      rw [hx3] at e3 hrd
      obtain ⟨c, hcc⟩ : ∃ c : Nat, tsum (ts.take j) = c := ⟨_, rfl⟩
      obtain ⟨n, hnn⟩ : ∃ n : Nat, ts[j].2.2.1.length = n := ⟨_, rfl⟩
      have HC := Lib.hid hcc
      have HN := Lib.hid hnn
      rw [hcc] at hts hts1 e1 e2 hrd ⊢
      rw [hnn] at hts1 hrd
      rw [hcc, hnn] at hx3 e3
      rw [marks_len] at e3
      rw [marks_len] at hrd
      have HRD2 := Lib.hid hrd
      have y1 : IntKind.i64.wrap (k + 2 * (j : Int) + (c : Int) + 1) = k + 2 * (j : Int) + (c : Int) + 1 := IntWalk.i64_in _ (by omega)
      have y2 : IntKind.i64.wrap (k + 2 * (j : Int) + (c : Int) + 1 + 1) = k + 2 * (j : Int) + (c : Int) + 1 + 1 := IntWalk.i64_in _ (by omega)
      clear hc hx3 hrd hcc hnn hlm HRD
      go_wp2_with fail
      rw [show k + 2 * (j : Int) + (c : Int) + 1 + 1 = k + 2 * (j : Int) + (c : Int) + 2 by omega]
      refine (L_heldIntS _ _ n _ HRD2.out (by omega) (by omega) (by omega)).mono ?_
      rintro e w9 ⟨rfl, rfl⟩
      have HE : Hid ((tsum (ts.take (j + 1)) : Int) = (c : Int) + (n : Int)) := Lib.hid (by rw [HTS.out, HC.out, HN.out]; simp)
      have n5 : decide (k + 2 * (j : Int) + (c : Int) + 2 + (n : Int) < 0) = false := decide_eq_false (by omega)
      go_wp2_with fail
      go_round
      case rel => exact ⟨j + 1, by omega, by go_num, by rw [HE.out]; go_num⟩
      case measure => simp [intOf]; omega
    · obtain rfl : j = ts.length := by omega
      rw [List.take_of_length_le (Nat.le_refl _)]
      go_wp2
      go_ret
      exact ⟨rfl, rfl⟩
end Go.Proofs.Ytafpnkcdoeicgaa
