/- Contracts of the laws' helpers over flights, and of FlightsSame. -/
import Derived.Test.YtafpnkcdoeicgaaRows
import Derived.Test.YtafpnkcdoeicgaaLeaf
import Derived.Test.YtafpnkcdoeicgaaFrame
import Derived.Test.YtafpnkcdoeicgaaCalm
import Derived.BigQuiet
namespace Go.Proofs.Ytafpnkcdoeicgaa
open Go.RowKit

theorem infoF : (Try.prog.info? 47).map (fun i => (i.zero, i.size, i.bytes)) = some (some (.agg #[.int .i64 0, .int .i64 0, .slice none 0 0]), 3, 40) := by kernel_rfl
abbrev zFT : FT := (0, 0, [], .slice none 0 0)
abbrev tsum (ts : List FT) : Nat := fsum (ts.map fl)
theorem tsum_take_succ {ts : List FT} {k : Nat} (h : k < ts.length) : tsum (ts.take (k + 1)) = tsum (ts.take k) + ts[k].2.2.1.length := by
  have h1 := fsum_take_succ (xs := ts.map fl) (k := k) (by simpa using h)
  simpa [tsum, List.map_take] using h1
theorem tsum_take_le (ts : List FT) (k : Nat) : tsum (ts.take k) ≤ tsum ts := by
  have := fsum_take_le (ts.map fl) k; simpa [tsum, List.map_take] using this
theorem tsum_get_le {ts : List FT} {k : Nat} (h : k < ts.length) : ts[k].2.2.1.length ≤ tsum ts := by
  have h1 := tsum_take_succ h; have h2 := tsum_take_le ts (k + 1); omega
theorem tcs_put (a b : List FT) (x y : FT) : (((tcs (a ++ y :: b)).set (a.length * 3) (.int .i64 x.1)).set (a.length * 3 + 1) (.int .i64 x.2.1)).set (a.length * 3 + 2) x.2.2.2 = tcs (a ++ x :: b) := by
  rw [tcs_append, tcs_append]
  have e : (tcs a).length = a.length * 3 := tcs_len a
  rw [List.set_append_right _ _ (by omega), List.set_append_right _ _ (by omega), List.set_append_right _ _ (by omega), e, Nat.sub_self, Nat.add_sub_cancel_left, Nat.add_sub_cancel_left]
  simp [tcs, List.flatMap_cons]
/-- A row of n flights whose first ones are laid. -/
def fillT (Ts : List FT) (n : Nat) : List Value := tcs (Ts ++ List.replicate (n - Ts.length) zFT)
theorem fillT_set {Ts : List FT} {n : Nat} (h : Ts.length < n) (t : FT) : (((fillT Ts n).set (Ts.length * 3) (.int .i64 t.1)).set (Ts.length * 3 + 1) (.int .i64 t.2.1)).set (Ts.length * 3 + 2) t.2.2.2 = fillT (Ts ++ [t]) n := by
  unfold fillT
  rw [show n - Ts.length = (n - (Ts ++ [t]).length) + 1 by simp; omega, List.replicate_succ, tcs_put, List.append_assoc]
  rfl
theorem fillT_all (Ts : List FT) : fillT Ts Ts.length = tcs Ts := by simp [fillT]
theorem fillT_get {Ts : List FT} {n : Nat} (h : Ts.length < n) : (fillT Ts n)[Ts.length * 3]? = some (.int .i64 0) ∧ (fillT Ts n)[Ts.length * 3 + 1]? = some (.int .i64 0) ∧ (fillT Ts n)[Ts.length * 3 + 2]? = some (.slice none 0 0) := by
  have hl : Ts.length < (Ts ++ List.replicate (n - Ts.length) zFT).length := by simp; omega
  have e : (Ts ++ List.replicate (n - Ts.length) zFT)[Ts.length] = zFT := by
    rw [List.getElem_append_right (Nat.le_refl _)]; simp
  obtain ⟨h1, h2, h3⟩ := tcs_at _ _ hl
  unfold fillT
  rw [h1, h2, h3, e]
  exact ⟨rfl, rfl, rfl⟩
theorem tcs_made (n : Nat) : (madeCells (Value.agg #[.int .i64 0, .int .i64 0, .slice none 0 0]).cells (n * 3)).toList = tcs (List.replicate n zFT) := by
  apply List.ext_getElem?
  intro j
  show (madeCells #[.int .i64 0, .int .i64 0, .slice none 0 0] (n * 3)).toList[j]? = _
  by_cases hj : j < n * 3
  · have hl : j / 3 < (List.replicate n zFT).length := by simp; omega
    obtain ⟨h0, h1, h2⟩ := tcs_at _ _ hl
    have e : (List.replicate n zFT)[j / 3] = zFT := by simp
    rw [e] at h0 h1 h2
    have h3 : j % 3 = 0 ∨ j % 3 = 1 ∨ j % 3 = 2 := by omega
    rcases h3 with h3 | h3 | h3
    · have e2 : j = j / 3 * 3 := by omega
      rw [show (tcs (List.replicate n zFT))[j]? = (tcs (List.replicate n zFT))[j / 3 * 3]? by rw [← e2], h0]
      simp [madeCells, hj, h3]
    · have e2 : j = j / 3 * 3 + 1 := by omega
      rw [show (tcs (List.replicate n zFT))[j]? = (tcs (List.replicate n zFT))[j / 3 * 3 + 1]? by rw [← e2], h1]
      simp [madeCells, hj, h3]
    · have e2 : j = j / 3 * 3 + 2 := by omega
      rw [show (tcs (List.replicate n zFT))[j]? = (tcs (List.replicate n zFT))[j / 3 * 3 + 2]? by rw [← e2], h2]
      simp [madeCells, hj, h3]
  · rw [List.getElem?_eq_none (by simp [madeCells]; omega), List.getElem?_eq_none (by rw [tcs_len]; simp; omega)]
theorem ne_new {u v : Value} {b : Nat} {w : World} {e s n : Nat} {cs : List Value} (hu : ∀ g, u.ownBlock = some g → g < b) (hv : w.ownsRow b e s v n cs) : NE u v := ne_lt hu (own_lo hv)
theorem pw_snoc {us : List Value} {v : Value} (h : us.Pairwise NE) (hv : ∀ u ∈ us, NE u v) : (us ++ [v]).Pairwise NE := by
  rw [List.pairwise_append]
  exact ⟨h, List.pairwise_singleton _ _, fun a ha b hb => by rw [List.mem_singleton.1 hb]; exact hv a ha⟩

set_option maxHeartbeats 400000 in
theorem L_szFlight_ok (w : World) (p q : Int) (a : Option Addr) (n cap : Nat) (l : Int) (h : n ≤ l) (h2 : l ≤ 4294967296) :
    Calls Try.prog 33 #[.agg #[.int .i64 p, .int .i64 q, .slice a n cap], .int .i64 l] w fun e w' => e = .returned (.int .i64 (l - n)) ∧ Below w.heap.size w w' := by
  go_enter Try.func33, Try.ntmps33
  go_wp2_with (go_at_call 62; refine (L_szIntS_ok _ _ _ _ _ h h2).mono ?_; rintro e w' ⟨rfl, rfl⟩)
  go_ret
  exact ⟨rfl, (Below.refl _ _).alloc (Nat.le_refl _) _⟩
set_option maxHeartbeats 400000 in
theorem L_szFlight_no (w : World) (p q : Int) (a : Option Addr) (n cap : Nat) (l : Int) (h : l < n) (h2 : 0 ≤ l) (hn : n ≤ 9223372036854775807) :
    Calls Try.prog 33 #[.agg #[.int .i64 p, .int .i64 q, .slice a n cap], .int .i64 l] w fun e w' => e = .returned (.int .i64 (-1)) ∧ Below w.heap.size w w' := by
  go_enter Try.func33, Try.ntmps33
  go_wp2_with (go_at_call 62; refine (L_szIntS_no _ _ _ _ _ h h2 hn).mono ?_; rintro e w' ⟨rfl, rfl⟩)
  go_ret
  exact ⟨rfl, (Below.refl _ _).alloc (Nat.le_refl _) _⟩
set_option maxHeartbeats 1000000 in
theorem L_szFlightS_ok (w : World) (B C : Nat) (v : Value) (ts : List FT) (l : Int) (hr : RdF w B C v ts) (h : (ts.length + tsum ts : Nat) ≤ l) (h2 : l ≤ 4294967296) :
    Calls Try.prog 12 #[v, .int .i64 l] w fun e w' => e = .returned (.int .i64 (l - (ts.length + tsum ts : Nat))) ∧ Below w.heap.size w w' := by
  have HR := Lib.hid hr
  obtain ⟨a, cap, rfl, hcap, hnc, hc0⟩ := rdf_cells hr
  clear hc0 hnc hr
  go_enter Try.func12, Try.ntmps12
  go_wp2
  go_loopw [1, 5] (fun left i wr => ∃ k : Nat, k ≤ ts.length ∧ i = .int .i64 k ∧ left = .int .i64 (l - ts.length - tsum (ts.take k)) ∧ Below w.heap.size w wr) (fun _ i _ => ts.length - (intOf i).toNat)
  case atStart => exact ⟨0, Nat.zero_le _, rfl, by simp [tsum, fsum], Below.refl _ _⟩
  case round =>
    obtain ⟨k, hk, rfl, rfl, hbel⟩ := hrel
    have HB := Lib.hid hbel
    clear hbel
    by_cases hlt : k < ts.length
    · obtain ⟨a', cap', e, _, _, hc⟩ := rdf_cells (rdf_b HR.out HB.out)
      simp only [Value.slice.injEq, true_and] at e
      obtain ⟨rfl, rfl⟩ := e
      rcases hc with hc | ⟨g, off, rfl, hg, _, _, hc⟩
      · omega
      obtain ⟨e1, e2, e3⟩ := hc k hlt
      obtain ⟨b, c, hsl⟩ := rd_sl (rdf_rd HR.out hlt)
      rw [hsl] at e3
      have hs1 := tsum_take_succ hlt
      have hs2 := tsum_take_le ts (k + 1)
      have HS1 := Lib.hid hs1
      clear hc hsl hs1
      have hm : (ts[k].2.2.1.length : Int) ≤ l - ts.length - tsum (ts.take k) := by have := HS1.out; omega
      go_wp2_with fail
      refine (L_szFlight_ok _ _ _ _ _ _ _ hm (by omega)).mono ?_
      rintro e w1 ⟨rfl, hb⟩
      have HB1 := Lib.hid (below_trans HB.out hb)
      clear hb
      have hnn : ¬ (l - ts.length - tsum (ts.take k) - ts[k].2.2.1.length < 0) := by omega
      go_wp2_with fail
      go_roundw
      case rel => exact ⟨k + 1, by omega, by go_num, by rw [HS1.out]; congr 1; push_cast; omega, HB1.out⟩
      case measure => simp [intOf]; omega
    · obtain rfl : k = ts.length := by omega
      go_wp2
      go_ret
      exact ⟨by rw [List.take_length, show l - (ts.length : Int) - (tsum ts : Int) = l - ((ts.length + tsum ts : Nat) : Int) by omega]; rfl, HB.out⟩
set_option maxHeartbeats 1000000 in
theorem L_szFlightS_no (w : World) (B C : Nat) (v : Value) (ts : List FT) (l : Int) (hr : RdF w B C v ts) (hm : ∀ t ∈ ts, t.2.2.1.length ≤ 9223372036854775807) (hn : ts.length ≤ 9223372036854775807) (h : l < (ts.length + tsum ts : Nat)) (h0 : 0 ≤ l) (h2 : l ≤ 4294967296) :
    Calls Try.prog 12 #[v, .int .i64 l] w fun e w' => e = .returned (.int .i64 (-1)) ∧ Below w.heap.size w w' := by
  have HR := Lib.hid hr
  have HM := Lib.hid hm
  obtain ⟨a, cap, rfl, hcap, hnc, hc0⟩ := rdf_cells hr
  clear hc0 hnc hr hm
  by_cases hb : l < ts.length
  · go_enter Try.func12, Try.ntmps12
    go_wp2
    go_ret
    exact ⟨rfl, Below.refl _ _⟩
  have HL := Lib.hid h
  clear h
  go_enter Try.func12, Try.ntmps12
  go_wp2
  go_loopw [1, 5] (fun left i wr => ∃ k : Nat, k ≤ ts.length ∧ i = .int .i64 k ∧ (tsum (ts.take k) : Int) ≤ l - ts.length ∧ left = .int .i64 (l - ts.length - tsum (ts.take k)) ∧ Below w.heap.size w wr) (fun _ i _ => ts.length - (intOf i).toNat)
  case atStart => exact ⟨0, Nat.zero_le _, rfl, by simp [tsum, fsum]; omega, by simp [tsum, fsum], Below.refl _ _⟩
  case round =>
    obtain ⟨k, hk, rfl, hle, rfl, hbel⟩ := hrel
    have HB := Lib.hid hbel
    clear hbel
    by_cases hlt : k < ts.length
    · obtain ⟨a', cap', e, _, _, hc⟩ := rdf_cells (rdf_b HR.out HB.out)
      simp only [Value.slice.injEq, true_and] at e
      obtain ⟨rfl, rfl⟩ := e
      rcases hc with hc | ⟨g, off, rfl, hg, _, _, hc⟩
      · omega
      obtain ⟨e1, e2, e3⟩ := hc k hlt
      obtain ⟨b, c, hsl⟩ := rd_sl (rdf_rd HR.out hlt)
      rw [hsl] at e3
      have hs1 := tsum_take_succ hlt
      have HS1 := Lib.hid hs1
      have hmk := HM.out _ (List.getElem_mem hlt)
      clear hc hsl hs1
      by_cases hm : (ts[k].2.2.1.length : Int) ≤ l - ts.length - tsum (ts.take k)
      · have hnn : ¬ (l - ts.length - tsum (ts.take k) - ts[k].2.2.1.length < 0) := by omega
        go_wp2_with fail
        refine (L_szFlight_ok _ _ _ _ _ _ _ hm (by omega)).mono ?_
        rintro e w1 ⟨rfl, hb⟩
        have HB1 := Lib.hid (below_trans HB.out hb)
        clear hb
        go_wp2_with fail
        go_roundw
        case rel => exact ⟨k + 1, by omega, by go_num, by rw [HS1.out]; push_cast; omega, by rw [HS1.out]; congr 1; push_cast; omega, HB1.out⟩
        case measure => simp [intOf]; omega
      · go_wp2_with fail
        refine (L_szFlight_no _ _ _ _ _ _ _ (by omega) (by omega) hmk).mono ?_
        rintro e w1 ⟨rfl, hb⟩
        have HB1 := Lib.hid (below_trans HB.out hb)
        clear hb
        go_wp2_with fail
        go_ret
        exact ⟨rfl, HB1.out⟩
    · obtain rfl : k = ts.length := by omega
      exfalso
      rw [List.take_length] at hle
      have := HL.out
      push_cast at this
      omega

set_option maxHeartbeats 4000000 in
theorem L_toFlight (w : World) (p q : Int) (v : Value) (xs : List Int) (hr : Rd w v xs) (hl : xs.length ≤ 4294967296) :
    Calls Try.prog 35 #[.agg #[.int .i64 p, .int .i64 q, v]] w fun e w' => ∃ a cap, e = .returned (.agg #[.int .i64 p, .int .i64 q, .slice a xs.length cap]) ∧ Ow w' w.heap.size (.slice a xs.length cap) xs ∧ Below w.heap.size w w' := by
  have hr0 := Lib.hid hr
  obtain ⟨a, cap, rfl, hcap, hnc, hr⟩ := hr
  clear hr hnc
  go_enter Try.func35, Try.ntmps35
  go_wp2_with (go_at_call 63; refine (L_toIntS _ _ xs (rd_alloc (rd_alloc (rd_alloc hr0.out _) _) _) hl).mono ?_; rintro e w1 ⟨a', c', rfl, how, hb⟩; obtain ⟨hc, hf⟩ := bcell hb; have HO := Lib.hid (own_base how (show w.heap.size + 3 ≤ _ by simp)); have HB := Lib.hid hb; clear how hb)
  refine bodyPost_ret (v := .agg #[.int .i64 p, .int .i64 q, .slice a' xs.length c']) (by simp [results, Try.results35, go_sem, hc]) rfl ⟨_, _, rfl, ?_, (by have B0 := below_trans (below_alloc _ _) (below_trans (below_alloc _ _) (below_trans (below_alloc _ _) HB.out)); (repeat (refine Below.setCell ?_ (by simp; try omega) _)); exact B0)⟩
  refine own_base (b := w.heap.size + 3) ?_ (by omega)
  repeat (first | exact HO.out | refine own_set ?_ (fun g h => by have := own_lo HO.out g h; simp; omega) _)

/-- At the head of toFlightS' loop. -/
def TFHead (w : World) (ts : List FT) (vi : Value) (wr : World) : Prop :=
  ∃ Ts : List FT, Ts.length ≤ ts.length ∧ vi = .int .i64 (Ts.length : Int) ∧ Ts.map fl = (ts.map fl).take Ts.length ∧ wr.ownsRow w.heap.size 47 3 (.slice (some ⟨w.heap.size, 0, none⟩) ts.length ts.length) ts.length (fillT Ts ts.length) ∧
    (∀ t ∈ Ts, OwI wr (w.heap.size + 1) wr.heap.size (fv t) (fw t)) ∧ (Ts.map fv).Pairwise NE ∧ Below w.heap.size w wr ∧ w.heap.size + 1 ≤ wr.heap.size
theorem tfhead_step {w wr w1 w2 : World} {ts Ts : List FT} {t : FT} (hlt : Ts.length < ts.length) (hfl : fl t = fl ts[Ts.length]) (hm : Ts.map fl = (ts.map fl).take Ts.length)
    (hi : ∀ t ∈ Ts, OwI wr (w.heap.size + 1) wr.heap.size (fv t) (fw t)) (hp : (Ts.map fv).Pairwise NE) (hbel : Below w.heap.size w wr) (hs : w.heap.size + 1 ≤ wr.heap.size)
    (hb : Below wr.heap.size wr w1) (ho : Ow w1 wr.heap.size (fv t) (fw t)) (hset : Fr w1 w2 w.heap.size (w.heap.size + 1))
    (hrow : w2.ownsRow w.heap.size 47 3 (.slice (some ⟨w.heap.size, 0, none⟩) ts.length ts.length) ts.length (fillT (Ts ++ [t]) ts.length)) :
    TFHead w ts (.int .i64 ((Ts.length : Int) + 1)) w2 := by
  have hz1 := hb.size
  have hz2 := hset.size
  refine ⟨Ts ++ [t], by simp; omega, by simp, ?_, hrow, ?_, ?_, ?_, by omega⟩
  · have hl : Ts.length < (ts.map fl).length := by simpa using hlt
    rw [List.map_append, hm, List.length_append, List.length_singleton, List.take_succ_eq_append_getElem hl]
    simp [hfl]
  · intro u hu
    rcases List.mem_append.1 hu with hu | hu
    · exact owi_mono (owi_fr (owi_b (hi u hu) hb) hset (.inr (Nat.le_refl _))) (Nat.le_refl _) (by omega)
    · rw [List.mem_singleton.1 hu]
      exact owi_mono (owi_fr (ow_owi (own_base ho hs)) hset (.inr (Nat.le_refl _))) (Nat.le_refl _) hz2
  · rw [List.map_append]
    refine pw_snoc hp (fun u hu => ?_)
    obtain ⟨x, hx, rfl⟩ := List.mem_map.1 hu
    exact ne_lt (hi x hx).2 (own_lo ho)
  · exact below_fr (below_trans hbel (hb.mono (Nat.le_refl _))) hset (by omega) (Nat.le_refl _)
set_option maxHeartbeats 1000000 in
theorem L_toFlightS (w : World) (B C : Nat) (v : Value) (ts : List FT) (hr : RdF w B C v ts) (hl : ts.length + tsum ts ≤ 4294967296) :
    Calls Try.prog 14 #[v] w fun e w' => ∃ a cap Ts, e = .returned (.slice a ts.length cap) ∧ Ts.length = ts.length ∧ Ts.map fl = ts.map fl ∧ OwF w' 47 w.heap.size w'.heap.size (.slice a ts.length cap) Ts ∧ Below w.heap.size w w' := by
  obtain ⟨i0, hi, hz0, hz1, hz2⟩ := info_parts infoF
  have HR := Lib.hid hr
  obtain ⟨a, cap, rfl, hcap, hnc, hc0⟩ := rdf_cells hr
  clear hc0 hnc hr
  go_enter Try.func14, Try.ntmps14
  go_wp2_with (at_make; refine wpList_make_full _ rfl _ _ 25 rfl w.heap.size 47 i0 (.agg #[.int .i64 0, .int .i64 0, .slice none 0 0]) 3 Try.underlying25 hi hz0 hz1 .i64 .i64 _ _ ts.length rfl rfl rfl rfl (by rw [hz2]; omega) (by unfold maxLen; omega) (Nat.le_refl _) ?_; intro w1 hown1 hgrow1)
  rw [tcs_made] at hown1
  go_loopw [4] (fun i wr => TFHead w ts i wr) (fun i _ => ts.length - (intOf i).toNat)
  case atStart =>
    have h9 : (Value.slice (some ⟨w.heap.size, 0, none⟩) ts.length ts.length).ownBlock = some w.heap.size := rfl
    exact ⟨[], Nat.zero_le _, rfl, by simp, by simpa [fillT] using hown1, by simp, by simp, (Below.refl _ _).grown hgrow1 (Nat.le_refl _) (fun j hj => by cases hj), (hown1.lt _ h9).2⟩
  case round =>
    obtain ⟨Ts, hk, rfl, hmp, hown, hin, hpw, hbel, hsz⟩ := hrel
    have HB := Lib.hid hbel
    by_cases hlt : Ts.length < ts.length
    · obtain ⟨a', cap', e, _, _, hc⟩ := rdf_cells (rdf_b HR.out HB.out)
      simp only [Value.slice.injEq, true_and] at e
      obtain ⟨rfl, rfl⟩ := e
      rcases hc with hc | ⟨g, off, rfl, hg, _, _, hc⟩
      · omega
      obtain ⟨e1, e2, e3⟩ := hc Ts.length hlt
      obtain ⟨b, c, hsl⟩ := rd_sl (rdf_rd HR.out hlt)
      have hrd := rdf_rd (rdf_b HR.out HB.out) hlt
      rw [hsl] at e3 hrd
      have HRD := Lib.hid hrd
      have HO := Lib.hid hown
      have HZ := Lib.hid (fillT_get hlt)
      have HM := Lib.hid hmp
      have HI := Lib.hid hin
      have HP := Lib.hid hpw
      have hlen := tsum_get_le hlt
      clear hc hown hown1 hgrow1 hmp hin hpw hrd hsl hbel
      go_wp2_with fail
      refine (L_toFlight _ _ _ _ _ HRD.out (by omega)).mono ?_
      rintro e w2 ⟨a2, c2, rfl, ho2, hb2⟩
      have HO1 := Lib.hid (own_below HO.out hb2)
      have HO2 := Lib.hid ho2
      have HB2 := Lib.hid hb2
      clear hb2 ho2
      have hf0 := HO1.out.frozenAt (Ts.length * 3)
      have hf1 := HO1.out.frozenAt (Ts.length * 3 + 1)
      have hf2 := HO1.out.frozenAt (Ts.length * 3 + 2)
      have hd0 := (HO1.out.cellAt (Ts.length * 3) (by omega)).trans HZ.out.1
      have hd1 := (HO1.out.cellAt (Ts.length * 3 + 1) (by omega)).trans HZ.out.2.1
      have hd2 := (HO1.out.cellAt (Ts.length * 3 + 2) (by omega)).trans HZ.out.2.2
      go_wp2
      have hst := (((HO1.out.stored (Ts.length * 3) (.int .i64 ts[Ts.length].1)).1).stored (Ts.length * 3 + 1) (.int .i64 ts[Ts.length].2.1)).1.stored (Ts.length * 3 + 2) (.slice a2 ts[Ts.length].2.2.1.length c2)
      rw [fillT_set hlt (ts[Ts.length].1, ts[Ts.length].2.1, ts[Ts.length].2.2.1, .slice a2 ts[Ts.length].2.2.1.length c2)] at hst
      have HS := Lib.hid hst.1
      clear hst
      go_roundw
      case rel => exact tfhead_step (t := (ts[Ts.length].1, ts[Ts.length].2.1, ts[Ts.length].2.2.1, .slice a2 ts[Ts.length].2.2.1.length c2)) hlt rfl HM.out HI.out HP.out HB.out hsz HB2.out HO2.out (fr_trans (fr_trans (fr_set _ _ _ ⟨Nat.le_refl _, Nat.lt_succ_self _⟩) (fr_set _ _ _ ⟨Nat.le_refl _, Nat.lt_succ_self _⟩)) (fr_set _ _ _ ⟨Nat.le_refl _, Nat.lt_succ_self _⟩)) HS.out
      case measure => simp [intOf]; omega
    · have hk2 : ts.length = Ts.length := by omega
      have HK := Lib.hid hk2
      have HO := Lib.hid hown
      have HM := Lib.hid hmp
      have HI := Lib.hid hin
      have HP := Lib.hid hpw
      clear hown hown1 hgrow1 hmp hin hpw hbel hk2
      go_wp2
      go_ret
      refine ⟨_, _, Ts, rfl, HK.out.symm, ?_, ⟨?_, ?_, ?_, ?_, HP.out, Nat.le_refl _⟩, HB.out⟩
      · rw [HM.out, List.take_of_length_le (by have := HK.out; simp; omega)]
      · have h1 := HO.out
        have h2 := fillT_all Ts
        rw [← HK.out] at h2
        rw [h2] at h1
        rw [← HK.out]; exact h1
      · intro g hg; simp [Value.ownBlock] at hg; omega
      · intro t ht; exact owi_mono (HI.out t ht) (by omega) (Nat.le_refl _)
      · intro t ht; exact ne_lt (b := w.heap.size + 1) (fun g hg => by simp [Value.ownBlock] at hg; omega) (fun g hg => own_lo (HI.out t ht).1 g hg)

set_option maxHeartbeats 400000 in
theorem L_eqFlight (w : World) (p q p' q' : Int) (v u : Value) (xs ys : List Int) (hr : Rd w v xs) (hs : Rd w u ys) (hl : xs.length ≤ 4294967296) (hl' : ys.length ≤ 4294967296) :
    Calls Try.prog 39 #[.agg #[.int .i64 p, .int .i64 q, v], .agg #[.int .i64 p', .int .i64 q', u]] w fun e w' => e = .returned (.bool (eqT (p, q, xs) (p', q', ys))) ∧ Below w.heap.size w w' := by
  have hr0 := Lib.hid hr
  have hs0 := Lib.hid hs
  obtain ⟨a, cap, rfl, hcap, hnc, hr⟩ := hr
  obtain ⟨b, cap', rfl, hcap', hnc', hs⟩ := hs
  clear hr hnc hs hnc'
  by_cases h1 : p = p'
  · subst h1
    by_cases h2 : q = q'
    · subst h2
      by_cases hq : eqB xs ys = true
      · go_enter Try.func39, Try.ntmps39
        go_wp2_with (go_at_call 25; refine (L_eqIntS _ _ _ xs ys (rd_alloc (rd_alloc hr0.out _) _) (rd_alloc (rd_alloc hs0.out _) _) hl hl').mono ?_; rintro e w' ⟨rfl, n, rfl⟩)
        go_ret
        exact ⟨by simp [eqT, hq], ((below_alloc _ _).trans ((below_alloc _ _).mono (by simp))).trans ((drewN_below _ _).mono (by simp; omega))⟩
      · have hq' : eqB xs ys = false := by simpa using hq
        clear hq
        go_enter Try.func39, Try.ntmps39
        go_wp2_with (go_at_call 25; refine (L_eqIntS _ _ _ xs ys (rd_alloc (rd_alloc hr0.out _) _) (rd_alloc (rd_alloc hs0.out _) _) hl hl').mono ?_; rintro e w' ⟨rfl, n, rfl⟩)
        go_ret
        exact ⟨by simp [eqT, hq'], ((below_alloc _ _).trans ((below_alloc _ _).mono (by simp))).trans ((drewN_below _ _).mono (by simp; omega))⟩
    · go_enter Try.func39, Try.ntmps39
      go_wp2
      go_ret
      exact ⟨by simp [eqT, h2], below_trans (below_alloc _ _) (below_alloc _ _)⟩
  · go_enter Try.func39, Try.ntmps39
    go_wp2
    go_ret
    exact ⟨by simp [eqT, h1], below_trans (below_alloc _ _) (below_alloc _ _)⟩
theorem L_eqFlight_q (w : World) (p q p' q' : Int) (v u : Value) (xs ys : List Int) (b : Bool) (hr : Rd w v xs) (hs : Rd w u ys) (hl : xs.length ≤ 4294967296) (hl' : ys.length ≤ 4294967296) (hb : eqT (p, q, xs) (p', q', ys) = b) :
    Calls Try.prog 39 #[.agg #[.int .i64 p, .int .i64 q, v], .agg #[.int .i64 p', .int .i64 q', u]] w fun e w' => e = .returned (.bool b) ∧ Below w.heap.size w w' := by
  subst hb; exact L_eqFlight w p q p' q' v u xs ys hr hs hl hl'
set_option maxHeartbeats 1000000 in
theorem L_eqFlightS (w : World) (B C B' C' : Nat) (v u : Value) (xs ys : List FT) (hr : RdF w B C v xs) (hs : RdF w B' C' u ys) (hl : xs.length + tsum xs ≤ 4294967296) (hl' : ys.length + tsum ys ≤ 4294967296) :
    Calls Try.prog 16 #[v, u] w fun e w' => e = .returned (.bool (eqL (xs.map fl) (ys.map fl))) ∧ Below w.heap.size w w' := by
  have HR := Lib.hid hr
  have HS := Lib.hid hs
  obtain ⟨a, cap, rfl, hcap, hnc, hc0⟩ := rdf_cells hr
  obtain ⟨b, cap', rfl, hcap', hnc', hc0'⟩ := rdf_cells hs
  clear hnc hnc' hc0 hc0' hr hs
  by_cases hlen : xs.length = ys.length
  · have hlf : ((xs.length : Int) != (ys.length : Int)) = false := by simp [hlen]
    have HL := Lib.hid hlen
    clear hlen
    go_enter Try.func16, Try.ntmps16
    go_wp2
    clear hlf
    go_loopw [5] (fun i wr => ∃ k : Nat, k ≤ xs.length ∧ i = .int .i64 k ∧ (xs.map fl).take k = (ys.map fl).take k ∧ Below w.heap.size w wr) (fun i _ => xs.length - (intOf i).toNat)
    case atStart => exact ⟨0, Nat.zero_le _, rfl, by simp, Below.refl _ _⟩
    case round =>
      obtain ⟨k, hk, rfl, ht, hbel⟩ := hrel
      have HT := Lib.hid ht
      clear ht
      by_cases hlt : k < xs.length
      · have hlt' : k < ys.length := by have := HL.out; omega
        obtain ⟨a', c', e, _, _, hc⟩ := rdf_cells (rdf_b HR.out hbel)
        simp only [Value.slice.injEq, true_and] at e
        obtain ⟨rfl, rfl⟩ := e
        obtain ⟨b', d', e, _, _, hd⟩ := rdf_cells (rdf_b HS.out hbel)
        simp only [Value.slice.injEq, true_and] at e
        obtain ⟨rfl, rfl⟩ := e
        rcases hc with hc | ⟨g, off, rfl, hg, _, _, hc⟩
        · omega
        rcases hd with hd | ⟨g', off', rfl, hg', _, _, hd⟩
        · omega
        obtain ⟨e1, e2, e3⟩ := hc k hlt
        obtain ⟨f1, f2, f3⟩ := hd k hlt'
        have r1 := rdf_rd (rdf_b HR.out hbel) hlt
        have r2 := rdf_rd (rdf_b HS.out hbel) hlt'
        have hlx := tsum_get_le hlt
        have hly := tsum_get_le hlt'
        have HB := Lib.hid hbel
        obtain ⟨X, hX⟩ : ∃ X : FT, xs[k] = X := ⟨_, rfl⟩
        obtain ⟨Y, hY⟩ : ∃ Y : FT, ys[k] = Y := ⟨_, rfl⟩
        have hgx : ∀ hh : k < (xs.map fl).length, (xs.map fl)[k]'hh = fl X := fun hh => by simp [hX]
        have hgy : ∀ hh : k < (ys.map fl).length, (ys.map fl)[k]'hh = fl Y := fun hh => by simp [hY]
        rw [hX] at e1 e2 e3 r1 hlx
        rw [hY] at f1 f2 f3 r2 hly
        have hp : ∀ w1 w2 : World, (fun w' : World => w'.cell? ⟨g, off + k * 3, none⟩ = some (.int .i64 X.1) ∧ w'.cell? ⟨g, off + k * 3 + 1, none⟩ = some (.int .i64 X.2.1) ∧ w'.cell? ⟨g, off + k * 3 + 2, none⟩ = some X.2.2.2 ∧ w'.cell? ⟨g', off' + k * 3, none⟩ = some (.int .i64 Y.1) ∧ w'.cell? ⟨g', off' + k * 3 + 1, none⟩ = some (.int .i64 Y.2.1) ∧ w'.cell? ⟨g', off' + k * 3 + 2, none⟩ = some Y.2.2.2 ∧ Rd w' X.2.2.2 X.2.2.1 ∧ Rd w' Y.2.2.2 Y.2.2.1) w1 → Below w1.heap.size w1 w2 →
          (fun w' : World => w'.cell? ⟨g, off + k * 3, none⟩ = some (.int .i64 X.1) ∧ w'.cell? ⟨g, off + k * 3 + 1, none⟩ = some (.int .i64 X.2.1) ∧ w'.cell? ⟨g, off + k * 3 + 2, none⟩ = some X.2.2.2 ∧ w'.cell? ⟨g', off' + k * 3, none⟩ = some (.int .i64 Y.1) ∧ w'.cell? ⟨g', off' + k * 3 + 1, none⟩ = some (.int .i64 Y.2.1) ∧ w'.cell? ⟨g', off' + k * 3 + 2, none⟩ = some Y.2.2.2 ∧ Rd w' X.2.2.2 X.2.2.1 ∧ Rd w' Y.2.2.2 Y.2.2.1) w2 :=
          fun _ _ h hb => ⟨cell_b h.1 hb, cell_b h.2.1 hb, cell_b h.2.2.1 hb, cell_b h.2.2.2.1 hb, cell_b h.2.2.2.2.1 hb, cell_b h.2.2.2.2.2.1 hb, rd_below h.2.2.2.2.2.2.1 hb, rd_below h.2.2.2.2.2.2.2 hb⟩
        have HP := Lib.hid hp
        have HC := Lib.hid (And.intro e1 (And.intro e2 (And.intro e3 (And.intro f1 (And.intro f2 (And.intro f3 (And.intro r1 r2)))))))
        have HGX := Lib.hid hgx
        have HGY := Lib.hid hgy
        clear hc hd hbel hp e1 e2 e3 f1 f2 f3 r1 r2 hX hY hgx hgy
        by_cases hx : eqT (fl X) (fl Y) = true
        · have HX := Lib.hid hx
          clear hx
          go_wp2
          refine wp_region_calm _ (by kernel_rfl) (by kernel_rfl) HC.out HP.out ?_
          intro hne hs
          have q1 := fun n => (hs n).1
          have q2 := fun n => (hs n).2.1
          have q3 := fun n => (hs n).2.2.1
          have q4 := fun n => (hs n).2.2.2.1
          have q5 := fun n => (hs n).2.2.2.2.1
          have q6 := fun n => (hs n).2.2.2.2.2.1
          have Q7 := Lib.hid (fun n => (hs n).2.2.2.2.2.2.1)
          have Q8 := Lib.hid (fun n => (hs n).2.2.2.2.2.2.2)
          clear hs
          have hxe : eqT (X.1, X.2.1, X.2.2.1) (Y.1, Y.2.1, Y.2.2.1) = true := HX.out
          have HXE := Lib.hid hxe
          clear hxe
          repeat (go_big_quiet_step ((go_at_call 39; exact calm_of HP.out (L_eqFlight_q _ _ _ _ _ _ _ _ _ _ (Q7.out _) (Q8.out _) (by omega) (by omega) HXE.out))))
          refine wpQuiet_nil ?_
          rintro _ ⟨n, rfl⟩
          go_wp2
          go_roundw
          case rel => exact ⟨k + 1, by omega, by go_num, takeL_succ (by simpa using hlt) (by simpa using hlt') HT.out (by rw [HGX.out, HGY.out]; exact HX.out), below_trans HB.out n.below⟩
          case measure => simp [intOf]; omega
        · have hx' : eqT (fl X) (fl Y) = false := by simpa using hx
          have HX := Lib.hid hx'
          clear hx hx'
          go_wp2
          refine wp_region_calm _ (by kernel_rfl) (by kernel_rfl) HC.out HP.out ?_
          intro hne hs
          have q1 := fun n => (hs n).1
          have q2 := fun n => (hs n).2.1
          have q3 := fun n => (hs n).2.2.1
          have q4 := fun n => (hs n).2.2.2.1
          have q5 := fun n => (hs n).2.2.2.2.1
          have q6 := fun n => (hs n).2.2.2.2.2.1
          have Q7 := Lib.hid (fun n => (hs n).2.2.2.2.2.2.1)
          have Q8 := Lib.hid (fun n => (hs n).2.2.2.2.2.2.2)
          clear hs
          have hxe : eqT (X.1, X.2.1, X.2.2.1) (Y.1, Y.2.1, Y.2.2.1) = false := HX.out
          have HXE := Lib.hid hxe
          clear hxe
          repeat (go_big_quiet_step ((go_at_call 39; exact calm_of HP.out (L_eqFlight_q _ _ _ _ _ _ _ _ _ _ (Q7.out _) (Q8.out _) (by omega) (by omega) HXE.out))))
          refine wpQuiet_nil ?_
          rintro _ ⟨n, rfl⟩
          go_wp2
          go_ret
          exact ⟨by rw [eqL_bad (k := k) (by simpa using hlt) (by simpa using hlt') (by rw [HGX.out, HGY.out]; exact HX.out)]; rfl, below_trans HB.out n.below⟩
      · go_wp2
        go_ret
        exact ⟨by rw [eqL_all (k := k) (by simpa using HL.out) (by simp; omega) HT.out]; rfl, hbel⟩
  · have hlf : ((xs.length : Int) != (ys.length : Int)) = true := by simp; omega
    have HL := Lib.hid hlen
    clear hlen
    go_enter Try.func16, Try.ntmps16
    go_wp2
    go_ret
    exact ⟨by rw [eqL_len (by simpa using HL.out)]; rfl, Below.refl _ _⟩
end Go.Proofs.Ytafpnkcdoeicgaa
