/- Contracts of l3Find and l3Busy; what JoinFlight and LandFlight answer, as plain functions. -/
import Derived.Test.YtafpnkcdoeicgaaFlightCopy
namespace Go.Proofs.Ytafpnkcdoeicgaa
open Go.RowKit

/-- The keys of flights. -/
def keys (fs : List Fl) : List Int := fs.map (·.1)
theorem keys_len (fs : List Fl) : (keys fs).length = fs.length := by simp [keys]
theorem keys_get {ts : List FT} {k : Nat} (h : k < ts.length) (h' : k < (keys (ts.map fl)).length) : (keys (ts.map fl))[k] = ts[k].1 := by simp [keys]
theorem thrs_mem {fs : List Fl} {x : Int} : x ∈ thrs fs ↔ ∃ f ∈ fs, f.2.1 = x ∨ x ∈ f.2.2 := by
  unfold thrs; rw [List.mem_flatMap]
  constructor
  · rintro ⟨f, hf, hx⟩
    rcases List.mem_cons.1 hx with hx | hx
    · exact ⟨f, hf, .inl hx.symm⟩
    · exact ⟨f, hf, .inr hx⟩
  · rintro ⟨f, hf, hx | hx⟩
    · exact ⟨f, hf, by rw [hx]; exact List.mem_cons_self⟩
    · exact ⟨f, hf, List.mem_cons_of_mem _ hx⟩
theorem busy_hit {ts : List FT} {k : Nat} {x : Int} (h : k < ts.length) (hx : ts[k].2.1 = x ∨ x ∈ ts[k].2.2.1) : hasB (thrs (ts.map fl)) x = true :=
  decide_eq_true (thrs_mem.2 ⟨fl ts[k], List.mem_map.2 ⟨_, List.getElem_mem h, rfl⟩, hx⟩)
theorem busy_next {ts : List FT} {k : Nat} {x : Int} (h : k < ts.length) (hn : x ∉ thrs ((ts.map fl).take k)) (h1 : ¬ ts[k].2.1 = x) (h2 : x ∉ ts[k].2.2.1) : x ∉ thrs ((ts.map fl).take (k + 1)) := by
  rw [thrs_take_succ h]
  simp only [List.mem_append, List.mem_singleton, not_or]
  exact ⟨⟨hn, fun e => h1 e.symm⟩, h2⟩
theorem busy_miss {ts : List FT} {x : Int} (hn : x ∉ thrs ((ts.map fl).take ts.length)) : hasB (thrs (ts.map fl)) x = false := by
  rw [List.take_of_length_le (by simp)] at hn; exact decide_eq_false hn

set_option maxHeartbeats 400000 in
theorem S_l3Find (w : World) (B C : Nat) (v : Value) (ts : List FT) (x : Int) (hr : RdF w B C v ts) (hl : ts.length + tsum ts ≤ 4294967296) :
    Calls Try.prog 46 #[v, .int .i64 x] w fun e w' => e = .returned (.int .i64 (atF (keys (ts.map fl)) x)) ∧ w = w' := by
  obtain ⟨a, cap, rfl, hcap, hnc, hr⟩ := rdf_cells hr
  clear hnc
  go_enter Try.func46, Try.ntmps46
  go_wp2
  go_loop [5] (fun i => ∃ k : Nat, k ≤ ts.length ∧ i = .int .i64 k ∧ x ∉ (keys (ts.map fl)).take k) (fun i => ts.length - (intOf i).toNat)
  case atStart => exact ⟨0, Nat.zero_le _, rfl, by simp⟩
  case round =>
    obtain ⟨k, hk, rfl, hn⟩ := hrel
    by_cases hlt : k < ts.length
    · rcases hr with hr | ⟨g, off, rfl, hg, _, _, hc⟩
      · omega
      have hck := (hc k hlt).1
      have hlm : k < (keys (ts.map fl)).length := by rw [keys_len]; simpa using hlt
      have hel : (keys (ts.map fl))[k] = ts[k].1 := keys_get hlt hlm
      have HE := Lib.hid hel
      have HM := Lib.hid hlm
      have HN := Lib.hid hn
      clear hc hn hel
      go_wp2
      · have hx : (ts[k].1 == x) = true := by assumption
        go_ret
        exact ⟨by rw [atF_hit HM.out (by rw [HE.out]; exact hx) HN.out]; rfl, rfl⟩
      · have hx : (ts[k].1 == x) = false := by assumption
        go_round
        case rel => exact ⟨k + 1, by omega, by go_num, not_take_succ HM.out (by rw [HE.out]; exact hx) HN.out⟩
        case measure => simp [intOf]; omega
    · have HN := Lib.hid hn
      clear hn
      go_wp2
      go_ret
      exact ⟨by rw [atF_miss (by rw [keys_len]; simp; omega) HN.out]; rfl, rfl⟩
set_option maxHeartbeats 1000000 in
theorem S_l3Busy (w : World) (B C : Nat) (v : Value) (ts : List FT) (x : Int) (hr : RdF w B C v ts) (hl : ts.length + tsum ts ≤ 4294967296) :
    Calls Try.prog 44 #[v, .int .i64 x] w fun e w' => e = .returned (.bool (hasB (thrs (ts.map fl)) x)) ∧ w = w' := by
  have HR := Lib.hid hr
  obtain ⟨a, cap, rfl, hcap, hnc, hr⟩ := rdf_cells hr
  clear hnc
  go_enter Try.func44, Try.ntmps44
  go_wp2
  go_loop [5] (fun i => ∃ k : Nat, k ≤ ts.length ∧ i = .int .i64 k ∧ x ∉ thrs ((ts.map fl).take k)) (fun i => ts.length - (intOf i).toNat)
  case atStart => exact ⟨0, Nat.zero_le _, rfl, by simp [thrs]⟩
  case round =>
    obtain ⟨k, hk, rfl, hn⟩ := hrel
    by_cases hlt : k < ts.length
    · rcases hr with hr | ⟨g, off, rfl, hg, _, _, hc⟩
      · omega
      obtain ⟨_, e2, e3⟩ := hc k hlt
      have hrd := rdf_rd HR.out hlt
      have hlx := tsum_get_le hlt
      have HRD := Lib.hid hrd
      have HN := Lib.hid hn
      clear hc hn hrd
      by_cases h1 : ts[k].2.1 = x
      · have b1 : (ts[k].2.1 == x) = true := by simpa using h1
        have H1 := Lib.hid h1
        clear h1
        go_wp2
        go_ret
        exact ⟨by rw [busy_hit hlt (.inl H1.out)]; rfl, rfl⟩
      · have b1 : (ts[k].2.1 == x) = false := by simpa using h1
        have H1 := Lib.hid h1
        clear h1
        by_cases h2 : x ∈ ts[k].2.2.1
        · obtain ⟨z, hz⟩ : ∃ z, atF ts[k].2.2.1 x = z := ⟨_, rfl⟩
          have hz0 : 0 ≤ z := by rw [← hz]; exact atF_nonneg.2 h2
          have HZ := Lib.hid hz
          have H2 := Lib.hid h2
          clear h2 hz
          go_wp2_with fail
          refine (S_l2At _ _ _ x HRD.out (by omega)).mono ?_
          rintro e w1 ⟨rfl, rfl⟩
          rw [HZ.out]
          go_wp2_with fail
          go_ret
          exact ⟨by rw [busy_hit hlt (.inr H2.out)]; rfl, rfl⟩
        · obtain ⟨z, hz⟩ : ∃ z, atF ts[k].2.2.1 x = z := ⟨_, rfl⟩
          have hz0 : z < 0 := by rw [← hz]; exact atF_neg.2 h2
          have HZ := Lib.hid hz
          have H2 := Lib.hid h2
          clear h2 hz
          go_wp2_with fail
          refine (S_l2At _ _ _ x HRD.out (by omega)).mono ?_
          rintro e w1 ⟨rfl, rfl⟩
          rw [HZ.out]
          go_wp2_with fail
          go_round
          case rel => exact ⟨k + 1, by omega, by go_num, busy_next hlt HN.out H1.out H2.out⟩
          case measure => simp [intOf]; omega
    · obtain rfl : k = ts.length := by omega
      have HN := Lib.hid hn
      clear hn
      go_wp2
      go_ret
      exact ⟨by rw [busy_miss HN.out]; rfl, rfl⟩

/-- May the thread join? -/
def joinOk (fs : List Fl) (key t : Int) : Bool := fval fs && thr t && decide (0 ≤ key) && decide (key ≤ 99) && !hasB (thrs fs) t
/-- The thread waits at flight k. -/
def fput (fs : List Fl) (k : Nat) (t : Int) : List Fl := if h : k < fs.length then fs.set k (fs[k].1, fs[k].2.1, fs[k].2.2 ++ [t]) else fs
/-- How many keys are smaller. -/
def fpos (fs : List Fl) (key : Int) : Nat := (fs.takeWhile (fun f => decide (f.1 < key))).length
/-- A new flight in its place. -/
def fins (fs : List Fl) (key t : Int) : List Fl := fs.take (fpos fs key) ++ (key, t, []) :: fs.drop (fpos fs key)
/-- What JoinFlight answers. -/
def fjoin (fs : List Fl) (key t : Int) : List Fl × Bool × Bool :=
  if joinOk fs key t = true then (if key ∈ keys fs then (fput fs ((keys fs).idxOf key) t, false, true) else (fins fs key t, true, true)) else ([], false, false)
theorem fjoin_no {fs : List Fl} {key t : Int} (h : joinOk fs key t = false) : fjoin fs key t = ([], false, false) := by unfold fjoin; rw [if_neg (by rw [h]; simp)]
theorem fjoin_put {fs : List Fl} {key t : Int} (h : joinOk fs key t = true) (hm : key ∈ keys fs) : fjoin fs key t = (fput fs ((keys fs).idxOf key) t, false, true) := by unfold fjoin; rw [if_pos h, if_pos hm]
theorem fjoin_new {fs : List Fl} {key t : Int} (h : joinOk fs key t = true) (hm : key ∉ keys fs) : fjoin fs key t = (fins fs key t, true, true) := by unfold fjoin; rw [if_pos h, if_neg hm]
theorem fpos_le (fs : List Fl) (key : Int) : fpos fs key ≤ fs.length := (List.takeWhile_sublist _).length_le
theorem fpos_eq : ∀ (fs : List Fl) (key : Int) (k : Nat), k ≤ fs.length → (∀ j, (h : j < k) → (hj : j < fs.length) → (fs[j]'hj).1 < key) → ((h : k < fs.length) → ¬ (fs[k]'h).1 < key) → fpos fs key = k
  | [], key, k, hk, _, _ => by simp at hk; subst hk; rfl
  | f :: fs, key, 0, _, _, h2 => by
    have := h2 (by simp)
    unfold fpos; simp at this; rw [List.takeWhile_cons_of_neg (by simpa using this)]; rfl
  | f :: fs, key, k + 1, hk, h1, h2 => by
    have h0 := h1 0 (by omega) (by simp)
    have ih := fpos_eq fs key k (by simpa using hk) (fun j hj hj' => h1 (j + 1) (by omega) (by simpa using hj')) (fun h => h2 (by simpa using h))
    unfold fpos at ih ⊢
    rw [List.takeWhile_cons_of_pos (by simpa using h0), List.length_cons, ih]
theorem joinOk_in {fs : List Fl} {key t : Int} (h : joinOk fs key t = true) : fval fs = true ∧ thr t = true ∧ 0 ≤ key ∧ key ≤ 99 ∧ hasB (thrs fs) t = false := by
  unfold joinOk at h
  simp only [Bool.and_eq_true, decide_eq_true_eq, Bool.not_eq_true'] at h
  exact ⟨h.1.1.1.1, h.1.1.1.2, h.1.1.2, h.1.2, h.2⟩
theorem fval_in {fs : List Fl} (h : fval fs = true) : fs.length ≤ 6 ∧ keysOk fs = true ∧ dist (thrs fs) = true := by
  unfold fval at h
  simp only [Bool.and_eq_true, decide_eq_true_eq] at h
  exact ⟨h.1.1, h.1.2, h.2⟩
theorem fval_sum {fs : List Fl} (h : fval fs = true) : fs.length + fsum fs ≤ 6 := by
  rw [← thrs_len]; exact dist_len (fval_in h).2.2
end Go.Proofs.Ytafpnkcdoeicgaa
