/- Contracts of FlightsSame. -/
import Derived.Test.YtafpnkcdoeicgaaFlight
namespace Go.Proofs.Ytafpnkcdoeicgaa
open Go.RowKit

set_option maxHeartbeats 400000 in
theorem I_FlightsSame1 (w : World) (p q p' q' : Int) (v u : Value) (xs ys : List Int) (hr : Rd w v xs) (hs : Rd w u ys) (hl : xs.length ≤ 4294967296) (hl' : ys.length ≤ 4294967296) :
    Calls Try.prog 37 #[.agg #[.int .i64 p, .int .i64 q, v], .agg #[.int .i64 p', .int .i64 q', u]] w fun e w' => e = .returned (.bool (eqT (p, q, xs) (p', q', ys))) ∧ Below w.heap.size w w' := by
  have hr0 := Lib.hid hr
  have hs0 := Lib.hid hs
  obtain ⟨a, cap, rfl, hcap, hnc, hr⟩ := hr
  obtain ⟨b, cap', rfl, hcap', hnc', hs⟩ := hs
  clear hr hnc hs hnc'
  by_cases h1 : p = p'
  · subst h1
    by_cases h2 : q = q'
    · subst h2
      go_enter Try.func37, Try.ntmps37
      go_wp2_with fail
      refine (slices_Equal _ _ _ xs ys (rd_alloc (rd_alloc hr0.out _) _) (rd_alloc (rd_alloc hs0.out _) _) hl hl').mono ?_
      rintro e w1 ⟨rfl, n, rfl⟩
      go_wp2_with fail
      go_ret
      exact ⟨by simp [eqT], below_trans (below_alloc _ _) (below_trans (below_alloc _ _) (drewN_below _ _))⟩
    · go_enter Try.func37, Try.ntmps37
      go_wp2
      go_ret
      exact ⟨by simp [eqT, h2], below_trans (below_alloc _ _) (below_alloc _ _)⟩
  · go_enter Try.func37, Try.ntmps37
    go_wp2
    go_ret
    exact ⟨by simp [eqT, h1], below_trans (below_alloc _ _) (below_alloc _ _)⟩
set_option maxHeartbeats 1000000 in
theorem slices_EqualFuncF (w : World) (B C B' C' : Nat) (v u : Value) (xs ys : List FT) (hr : RdF w B C v xs) (hs : RdF w B' C' u ys) (hl : xs.length + tsum xs ≤ 4294967296) (hl' : ys.length + tsum ys ≤ 4294967296) :
    Calls Try.prog 36 #[v, u, .func (.func 37) #[] #[]] w fun e w' => e = .returned (.bool (eqL (xs.map fl) (ys.map fl))) ∧ Below w.heap.size w w' := by
  have HR := Lib.hid hr
  have HS := Lib.hid hs
  obtain ⟨a, cap, rfl, hcap, hnc, hc0⟩ := rdf_cells hr
  obtain ⟨b, cap', rfl, hcap', hnc', hc0'⟩ := rdf_cells hs
  clear hnc hnc' hc0 hc0' hr hs
  by_cases hlen : xs.length = ys.length
  · have hlf : ((xs.length : Int) != (ys.length : Int)) = false := by simp [hlen]
    have HL := Lib.hid hlen
    clear hlen
    go_enter Try.func36, Try.ntmps36
    go_wp2
    clear hlf
    go_loopw [17] (fun i wr => ∃ k : Nat, k ≤ xs.length ∧ i = .int .i64 k ∧ (xs.map fl).take k = (ys.map fl).take k ∧ Below w.heap.size w wr) (fun i _ => xs.length - (intOf i).toNat)
    case atStart => exact ⟨0, Nat.zero_le _, rfl, by simp, Below.refl _ _⟩
    case round =>
      obtain ⟨k, hk, rfl, ht, hbel⟩ := hrel
      have HT := Lib.hid ht
      clear ht
      by_cases hlt : k < xs.length
      · have hlt' : k < ys.length := by have := HL.out; omega
        obtain ⟨a', c', e, _, _, hc⟩ := rdf_cells (rdf_b HR.out hbel)
        simp only [Value.slice.injEq, true_and] at e
        obtain ⟨rfl, rfl⟩ := e
        obtain ⟨b', d', e, _, _, hd⟩ := rdf_cells (rdf_b HS.out hbel)
        simp only [Value.slice.injEq, true_and] at e
        obtain ⟨rfl, rfl⟩ := e
        rcases hc with hc | ⟨g, off, rfl, hg, _, _, hc⟩
        · omega
        rcases hd with hd | ⟨g', off', rfl, hg', _, _, hd⟩
        · omega
        obtain ⟨e1, e2, e3⟩ := hc k hlt
        obtain ⟨f1, f2, f3⟩ := hd k hlt'
        have r1 := rdf_rd (rdf_b HR.out hbel) hlt
        have r2 := rdf_rd (rdf_b HS.out hbel) hlt'
        have hlx := tsum_get_le hlt
        have hly := tsum_get_le hlt'
        have HB := Lib.hid hbel
        obtain ⟨X, hX⟩ : ∃ X : FT, xs[k] = X := ⟨_, rfl⟩
        obtain ⟨Y, hY⟩ : ∃ Y : FT, ys[k] = Y := ⟨_, rfl⟩
        have hgx : ∀ hh : k < (xs.map fl).length, (xs.map fl)[k]'hh = fl X := fun hh => by simp [hX]
        have hgy : ∀ hh : k < (ys.map fl).length, (ys.map fl)[k]'hh = fl Y := fun hh => by simp [hY]
        rw [hX] at e1 e2 e3 r1 hlx
        rw [hY] at f1 f2 f3 r2 hly
        obtain ⟨xa, xc, hx3⟩ := rd_sl r1
        obtain ⟨ya, yc, hy3⟩ := rd_sl r2
        rw [hx3] at e3 r1
        rw [hy3] at f3 r2
        clear hx3 hy3
        have HC := Lib.hid (And.intro r1 r2)
        have HGX := Lib.hid hgx
        have HGY := Lib.hid hgy
        clear hc hd hbel r1 r2 hX hY hgx hgy
        go_wp2_with fail
        refine (I_FlightsSame1 _ _ _ _ _ _ _ X.2.2.1 Y.2.2.1 (rd_below HC.out.1 (below_trans (below_alloc _ _) (below_alloc _ _))) (rd_below HC.out.2 (below_trans (below_alloc _ _) (below_alloc _ _))) (by omega) (by omega)).mono ?_
        rintro e w1 ⟨rfl, hb⟩
        have HB1 := Lib.hid (HB.out.trans ((below_trans (below_alloc _ _) (below_trans (below_alloc _ _) hb)).mono HB.out.size))
        clear hb
        by_cases hx : eqT (X.1, X.2.1, X.2.2.1) (Y.1, Y.2.1, Y.2.2.1) = true
        · have HX := Lib.hid hx
          rw [hx]
          clear hx
          go_wp2_with fail
          go_roundw
          case rel => exact ⟨k + 1, by omega, by go_num, takeL_succ (by simpa using hlt) (by simpa using hlt') HT.out (by rw [HGX.out, HGY.out]; exact HX.out), HB1.out⟩
          case measure => simp [intOf]; omega
        · have hx' : eqT (X.1, X.2.1, X.2.2.1) (Y.1, Y.2.1, Y.2.2.1) = false := by simpa using hx
          have HX := Lib.hid hx'
          rw [hx']
          clear hx hx'
          go_wp2_with fail
          go_ret
          exact ⟨by rw [eqL_bad (k := k) (by simpa using hlt) (by simpa using hlt') (by rw [HGX.out, HGY.out]; exact HX.out)]; rfl, HB1.out⟩
      · go_wp2
        go_ret
        exact ⟨by rw [eqL_all (k := k) (by simpa using HL.out) (by simp; omega) HT.out]; rfl, hbel⟩
  · have hlf : ((xs.length : Int) != (ys.length : Int)) = true := by simp; omega
    have HL := Lib.hid hlen
    clear hlen
    go_enter Try.func36, Try.ntmps36
    go_wp2
    go_ret
    exact ⟨by rw [eqL_len (by simpa using HL.out)]; rfl, Below.refl _ _⟩
theorem I_FlightsSame (w : World) (B C B' C' : Nat) (v u : Value) (xs ys : List FT) (hr : RdF w B C v xs) (hs : RdF w B' C' u ys) (hl : xs.length + tsum xs ≤ 4294967296) (hl' : ys.length + tsum ys ≤ 4294967296) :
    Calls Try.prog 15 #[v, u] w fun e w' => e = .returned (.bool (eqL (xs.map fl) (ys.map fl))) ∧ Below w.heap.size w w' := by
  have HR := Lib.hid hr
  have HS := Lib.hid hs
  clear hr hs
  go_enter Try.func15, Try.ntmps15
  go_wp2_with fail
  refine (slices_EqualFuncF _ _ _ _ _ _ _ xs ys HR.out HS.out hl hl').mono ?_
  rintro e w1 ⟨rfl, hb⟩
  have HB := Lib.hid hb
  clear hb
  go_wp2_with fail
  go_ret
  exact ⟨rfl, HB.out⟩
theorem I_FlightsSame_q (w : World) (B C B' C' : Nat) (v u : Value) (xs ys : List FT) (b : Bool) (hr : RdF w B C v xs) (hs : RdF w B' C' u ys) (hl : xs.length + tsum xs ≤ 4294967296) (hl' : ys.length + tsum ys ≤ 4294967296) (hb : eqL (xs.map fl) (ys.map fl) = b) :
    Calls Try.prog 15 #[v, u] w fun e w' => e = .returned (.bool b) ∧ Below w.heap.size w w' := by
  subst hb; exact I_FlightsSame w B C B' C' v u xs ys hr hs hl hl'
theorem L_eqFlightS_q (w : World) (B C B' C' : Nat) (v u : Value) (xs ys : List FT) (b : Bool) (hr : RdF w B C v xs) (hs : RdF w B' C' u ys) (hl : xs.length + tsum xs ≤ 4294967296) (hl' : ys.length + tsum ys ≤ 4294967296) (hb : eqL (xs.map fl) (ys.map fl) = b) :
    Calls Try.prog 16 #[v, u] w fun e w' => e = .returned (.bool b) ∧ Below w.heap.size w w' := by
  subst hb; exact L_eqFlightS w B C B' C' v u xs ys hr hs hl hl'
theorem tsum_eq {T ts : List FT} (h : T.map fl = ts.map fl) : tsum T = tsum ts := by unfold tsum; rw [h]
theorem len_eq {T ts : List FT} (h : T.map fl = ts.map fl) : T.length = ts.length := by simpa using congrArg List.length h
theorem S_l2Ints_q (w : World) (v u : Value) (xs ys : List Int) (b : Bool) (hr : Rd w v xs) (hs : Rd w u ys) (hl : xs.length ≤ 4294967296) (hl' : ys.length ≤ 4294967296) (hb : eqB xs ys = b) :
    Calls Try.prog 34 #[v, u] w fun e w' => e = .returned (.bool b) ∧ Below w.heap.size w w' := by
  subst hb; exact drew_b (S_l2Ints w v u xs ys hr hs hl hl')
set_option maxHeartbeats 2000000 in
set_option maxRecDepth 100000 in
theorem S_FlightsSame (w : World) (B C B' C' : Nat) (v u : Value) (xs ys : List FT) (hr : RdF w B C v xs) (hs : RdF w B' C' u ys) (hl : xs.length + tsum xs ≤ 4294967296) (hl' : ys.length + tsum ys ≤ 4294967296) :
    Calls Try.prog 13 #[v, u] w fun e w' => e = .returned (.bool (eqL (xs.map fl) (ys.map fl))) ∧ Below w.heap.size w w' := by
  have HR := Lib.hid hr
  have HS := Lib.hid hs
  obtain ⟨a, cap, rfl, hcap, hnc, hc0⟩ := rdf_cells hr
  obtain ⟨b, cap', rfl, hcap', hnc', hc0'⟩ := rdf_cells hs
  clear hnc hnc' hc0 hc0' hr hs
  by_cases hlen : xs.length = ys.length
  · have hlf : ((xs.length : Int) != (ys.length : Int)) = false := by simp [hlen]
    have HL := Lib.hid hlen
    clear hlen
    go_enter Try.func13, Try.ntmps13
    go_wp2
    clear hlf
    go_loopw [5] (fun i wr => ∃ k : Nat, k ≤ xs.length ∧ i = .int .i64 k ∧ (xs.map fl).take k = (ys.map fl).take k ∧ Below w.heap.size w wr) (fun i _ => xs.length - (intOf i).toNat)
    case atStart => exact ⟨0, Nat.zero_le _, rfl, by simp, Below.refl _ _⟩
    case round =>
      obtain ⟨k, hk, rfl, ht, hbel⟩ := hrel
      have HT := Lib.hid ht
      clear ht
      by_cases hlt : k < xs.length
      · have hlt' : k < ys.length := by have := HL.out; omega
        obtain ⟨a', c', e, _, _, hc⟩ := rdf_cells (rdf_b HR.out hbel)
        simp only [Value.slice.injEq, true_and] at e
        obtain ⟨rfl, rfl⟩ := e
        obtain ⟨b', d', e, _, _, hd⟩ := rdf_cells (rdf_b HS.out hbel)
        simp only [Value.slice.injEq, true_and] at e
        obtain ⟨rfl, rfl⟩ := e
        rcases hc with hc | ⟨g, off, rfl, hg, _, _, hc⟩
        · omega
        rcases hd with hd | ⟨g', off', rfl, hg', _, _, hd⟩
        · omega
        obtain ⟨e1, e2, e3⟩ := hc k hlt
        obtain ⟨f1, f2, f3⟩ := hd k hlt'
        have r1 := rdf_rd (rdf_b HR.out hbel) hlt
        have r2 := rdf_rd (rdf_b HS.out hbel) hlt'
        have hlx := tsum_get_le hlt
        have hly := tsum_get_le hlt'
        have HB := Lib.hid hbel
        obtain ⟨X, hX⟩ : ∃ X : FT, xs[k] = X := ⟨_, rfl⟩
        obtain ⟨Y, hY⟩ : ∃ Y : FT, ys[k] = Y := ⟨_, rfl⟩
        have hgx : ∀ hh : k < (xs.map fl).length, (xs.map fl)[k]'hh = fl X := fun hh => by simp [hX]
        have hgy : ∀ hh : k < (ys.map fl).length, (ys.map fl)[k]'hh = fl Y := fun hh => by simp [hY]
        rw [hX] at e1 e2 e3 r1 hlx
        rw [hY] at f1 f2 f3 r2 hly
        have hp : ∀ w1 w2 : World, (fun w' : World => w'.cell? ⟨g, off + k * 3, none⟩ = some (.int .i64 X.1) ∧ w'.cell? ⟨g, off + k * 3 + 1, none⟩ = some (.int .i64 X.2.1) ∧ w'.cell? ⟨g, off + k * 3 + 2, none⟩ = some X.2.2.2 ∧ w'.cell? ⟨g', off' + k * 3, none⟩ = some (.int .i64 Y.1) ∧ w'.cell? ⟨g', off' + k * 3 + 1, none⟩ = some (.int .i64 Y.2.1) ∧ w'.cell? ⟨g', off' + k * 3 + 2, none⟩ = some Y.2.2.2 ∧ Rd w' X.2.2.2 X.2.2.1 ∧ Rd w' Y.2.2.2 Y.2.2.1) w1 → Below w1.heap.size w1 w2 → (fun w' : World => w'.cell? ⟨g, off + k * 3, none⟩ = some (.int .i64 X.1) ∧ w'.cell? ⟨g, off + k * 3 + 1, none⟩ = some (.int .i64 X.2.1) ∧ w'.cell? ⟨g, off + k * 3 + 2, none⟩ = some X.2.2.2 ∧ w'.cell? ⟨g', off' + k * 3, none⟩ = some (.int .i64 Y.1) ∧ w'.cell? ⟨g', off' + k * 3 + 1, none⟩ = some (.int .i64 Y.2.1) ∧ w'.cell? ⟨g', off' + k * 3 + 2, none⟩ = some Y.2.2.2 ∧ Rd w' X.2.2.2 X.2.2.1 ∧ Rd w' Y.2.2.2 Y.2.2.1) w2 :=
          fun _ _ h hb => ⟨cell_b h.1 hb, cell_b h.2.1 hb, cell_b h.2.2.1 hb, cell_b h.2.2.2.1 hb, cell_b h.2.2.2.2.1 hb, cell_b h.2.2.2.2.2.1 hb, rd_below h.2.2.2.2.2.2.1 hb, rd_below h.2.2.2.2.2.2.2 hb⟩
        have HP := Lib.hid hp
        have HC := Lib.hid (And.intro e1 (And.intro e2 (And.intro e3 (And.intro f1 (And.intro f2 (And.intro f3 (And.intro r1 r2)))))))
        have HGX := Lib.hid hgx
        have HGY := Lib.hid hgy
        clear hc hd hbel hp e1 e2 e3 f1 f2 f3 r1 r2 hX hY hgx hgy
        by_cases h1 : X.1 = Y.1
        · by_cases h2 : X.2.1 = Y.2.1
          · have b1 : (X.1 != Y.1) = false := by simpa using h1
            have b2 : (X.2.1 != Y.2.1) = false := by simpa using h2
            have hXY : eqT (fl X) (fl Y) = eqB X.2.2.1 Y.2.2.1 := by simp [eqT, h1, h2]
            have HXY := Lib.hid hXY
            clear h1 h2 hXY
            by_cases hx : eqB X.2.2.1 Y.2.2.1 = true
            · have HX := Lib.hid hx
              clear hx
              go_wp2
              refine wp_region_calm _ (by kernel_rfl) (by kernel_rfl) HC.out HP.out ?_
              intro hne hs
              have q1 := fun n => (hs n).1
              have q2 := fun n => (hs n).2.1
              have q3 := fun n => (hs n).2.2.1
              have q4 := fun n => (hs n).2.2.2.1
              have q5 := fun n => (hs n).2.2.2.2.1
              have q6 := fun n => (hs n).2.2.2.2.2.1
              have Q7 := Lib.hid (fun n => (hs n).2.2.2.2.2.2.1)
              have Q8 := Lib.hid (fun n => (hs n).2.2.2.2.2.2.2)
              clear hs
              repeat (go_big_quiet_step ((go_at_call 34; exact calm_of HP.out (S_l2Ints_q _ _ _ _ _ _ (Q7.out _) (Q8.out _) (by omega) (by omega) HX.out))))
              refine wpQuiet_nil ?_
              rintro _ ⟨n, rfl⟩
              go_wp2
              go_roundw
              case rel => exact ⟨k + 1, by omega, by go_num, takeL_succ (by simpa using hlt) (by simpa using hlt') HT.out (by rw [HGX.out, HGY.out, HXY.out]; exact HX.out), below_trans HB.out n.below⟩
              case measure => simp [intOf]; omega
            · have hx' : eqB X.2.2.1 Y.2.2.1 = false := by simpa using hx
              have HX := Lib.hid hx'
              clear hx hx'
              go_wp2
              refine wp_region_calm _ (by kernel_rfl) (by kernel_rfl) HC.out HP.out ?_
              intro hne hs
              have q1 := fun n => (hs n).1
              have q2 := fun n => (hs n).2.1
              have q3 := fun n => (hs n).2.2.1
              have q4 := fun n => (hs n).2.2.2.1
              have q5 := fun n => (hs n).2.2.2.2.1
              have q6 := fun n => (hs n).2.2.2.2.2.1
              have Q7 := Lib.hid (fun n => (hs n).2.2.2.2.2.2.1)
              have Q8 := Lib.hid (fun n => (hs n).2.2.2.2.2.2.2)
              clear hs
              repeat (go_big_quiet_step ((go_at_call 34; exact calm_of HP.out (S_l2Ints_q _ _ _ _ _ _ (Q7.out _) (Q8.out _) (by omega) (by omega) HX.out))))
              refine wpQuiet_nil ?_
              rintro _ ⟨n, rfl⟩
              go_wp2
              go_ret
              exact ⟨by rw [eqL_bad (k := k) (by simpa using hlt) (by simpa using hlt') (by rw [HGX.out, HGY.out, HXY.out]; exact HX.out)]; rfl, below_trans HB.out n.below⟩
          · have b1 : (X.1 != Y.1) = false := by simpa using h1
            have b2 : (X.2.1 != Y.2.1) = true := by simpa using h2
            have HX : Hid (eqT (fl X) (fl Y) = false) := Lib.hid (by simp [eqT, h2])
            clear h1 h2
            go_wp2
            refine wp_region_calm _ (by kernel_rfl) (by kernel_rfl) HC.out HP.out ?_
            intro hne hs
            have q1 := fun n => (hs n).1
            have q2 := fun n => (hs n).2.1
            have q3 := fun n => (hs n).2.2.1
            have q4 := fun n => (hs n).2.2.2.1
            have q5 := fun n => (hs n).2.2.2.2.1
            have q6 := fun n => (hs n).2.2.2.2.2.1
            have Q7 := Lib.hid (fun n => (hs n).2.2.2.2.2.2.1)
            have Q8 := Lib.hid (fun n => (hs n).2.2.2.2.2.2.2)
            clear hs
            repeat (go_big_quiet_step (fail))
            refine wpQuiet_nil ?_
            rintro _ ⟨n, rfl⟩
            go_wp2
            go_ret
            exact ⟨by rw [eqL_bad (k := k) (by simpa using hlt) (by simpa using hlt') (by rw [HGX.out, HGY.out]; exact HX.out)]; rfl, below_trans HB.out n.below⟩
        · have b1 : (X.1 != Y.1) = true := by simpa using h1
          have HX : Hid (eqT (fl X) (fl Y) = false) := Lib.hid (by simp [eqT, h1])
          clear h1
          go_wp2
          refine wp_region_calm _ (by kernel_rfl) (by kernel_rfl) HC.out HP.out ?_
          intro hne hs
          have q1 := fun n => (hs n).1
          have q2 := fun n => (hs n).2.1
          have q3 := fun n => (hs n).2.2.1
          have q4 := fun n => (hs n).2.2.2.1
          have q5 := fun n => (hs n).2.2.2.2.1
          have q6 := fun n => (hs n).2.2.2.2.2.1
          have Q7 := Lib.hid (fun n => (hs n).2.2.2.2.2.2.1)
          have Q8 := Lib.hid (fun n => (hs n).2.2.2.2.2.2.2)
          clear hs
          repeat (go_big_quiet_step (fail))
          refine wpQuiet_nil ?_
          rintro _ ⟨n, rfl⟩
          go_wp2
          go_ret
          exact ⟨by rw [eqL_bad (k := k) (by simpa using hlt) (by simpa using hlt') (by rw [HGX.out, HGY.out]; exact HX.out)]; rfl, below_trans HB.out n.below⟩
      · go_wp2
        go_ret
        exact ⟨by rw [eqL_all (k := k) (by simpa using HL.out) (by simp; omega) HT.out]; rfl, hbel⟩
  · have hlf : ((xs.length : Int) != (ys.length : Int)) = true := by simp; omega
    have HL := Lib.hid hlen
    clear hlen
    go_enter Try.func13, Try.ntmps13
    go_wp2
    go_ret
    exact ⟨by rw [eqL_len (by simpa using HL.out)]; rfl, Below.refl _ _⟩
theorem S_FlightsSame_q (w : World) (B C B' C' : Nat) (v u : Value) (xs ys : List FT) (b : Bool) (hr : RdF w B C v xs) (hs : RdF w B' C' u ys) (hl : xs.length + tsum xs ≤ 4294967296) (hl' : ys.length + tsum ys ≤ 4294967296) (hb : eqL (xs.map fl) (ys.map fl) = b) :
    Calls Try.prog 13 #[v, u] w fun e w' => e = .returned (.bool b) ∧ Below w.heap.size w w' := by
  subst hb; exact S_FlightsSame w B C B' C' v u xs ys hr hs hl hl'
end Go.Proofs.Ytafpnkcdoeicgaa
