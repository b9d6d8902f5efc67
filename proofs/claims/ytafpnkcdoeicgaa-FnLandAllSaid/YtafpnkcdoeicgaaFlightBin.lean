/- slices.BinarySearchFunc over flights' keys. -/
import Derived.Test.YtafpnkcdoeicgaaJoinNo
namespace Go.Proofs.Ytafpnkcdoeicgaa
open Go.RowKit

theorem keysOk_asc {ts : List FT} (h : keysOk (ts.map fl) = true) : ∀ (d i : Nat) (hj : i + d + 1 < ts.length), (ts[i]'(by omega)).1 < ts[i + d + 1].1
  | 0, i, hj => by
    have h1 := (keysOk_iff.1 h (i + 1) (by simpa using hj)).2.2 (by omega)
    simpa using h1
  | d + 1, i, hj => by
    have h1 := (keysOk_iff.1 h (i + d + 1 + 1) (by simp; omega)).2.2 (by omega)
    have h2 := keysOk_asc h d i (by omega)
    simp only [List.getElem_map, Nat.add_sub_cancel] at h1
    exact Int.lt_trans h2 h1
theorem keysOk_lt {ts : List FT} (h : keysOk (ts.map fl) = true) {i j : Nat} (hij : i < j) (hj : j < ts.length) : (ts[i]'(by omega)).1 < ts[j].1 := by
  obtain ⟨d, rfl⟩ : ∃ d, j = i + d + 1 := ⟨j - i - 1, by omega⟩
  exact keysOk_asc h d i hj
/-- The place is that of the key. -/
theorem bin_in {ts : List FT} {key : Int} {k : Nat} (hk : k < ts.length) (hl : ∀ m, m < k → (hm : m < ts.length) → ts[m].1 < key) (he : ts[k].1 = key) :
    key ∈ keys (ts.map fl) ∧ (keys (ts.map fl)).idxOf key = k := by
  have hkl : k < (keys (ts.map fl)).length := by rw [keys_len]; simpa using hk
  have hm : key ∈ keys (ts.map fl) := by rw [← he, ← keys_get hk hkl]; exact List.getElem_mem hkl
  refine ⟨hm, ?_⟩
  have hi : (keys (ts.map fl)).idxOf key < (keys (ts.map fl)).length := List.idxOf_lt_length_of_mem hm
  have hi2 : (keys (ts.map fl)).idxOf key < ts.length := by rw [keys_len] at hi; simpa using hi
  have hx : ts[(keys (ts.map fl)).idxOf key].1 = key := by rw [← keys_get hi2 hi]; exact List.getElem_idxOf hi
  rcases Nat.lt_trichotomy ((keys (ts.map fl)).idxOf key) k with h | h | h
  · have := hl _ h hi2; omega
  · exact h
  · exact absurd (by rw [keys_get hk hkl]; exact he : (keys (ts.map fl))[k] = key) (by
      intro e
      have := List.not_of_lt_findIdx (p := (· == key)) (xs := keys (ts.map fl)) (i := k) h
      simp [e] at this)
theorem bin_out {ts : List FT} (ho : keysOk (ts.map fl) = true) {key : Int} {k : Nat} (hl : ∀ m, m < k → (hm : m < ts.length) → ts[m].1 < key) (hh : (h : k < ts.length) → key ≤ ts[k].1) (he : (h : k < ts.length) → ts[k].1 ≠ key) :
    key ∉ keys (ts.map fl) := by
  intro hm
  obtain ⟨i, hi, e⟩ := List.mem_iff_getElem.1 hm
  have hi2 : i < ts.length := by rw [keys_len] at hi; simpa using hi
  rw [keys_get hi2 hi] at e
  rcases Nat.lt_trichotomy i k with h | h | h
  · have := hl i h hi2; omega
  · subst h; exact he hi2 e
  · have h1 := keysOk_lt ho h hi2
    have h2 := hh (by omega)
    omega
theorem fpos_at {ts : List FT} {key : Int} {k : Nat} (hk : k ≤ ts.length) (hl : ∀ m, m < k → (hm : m < ts.length) → ts[m].1 < key) (hh : (h : k < ts.length) → key ≤ ts[k].1) : fpos (ts.map fl) key = k :=
  fpos_eq _ _ _ (by simpa using hk) (fun j h hj => by simpa using hl j h (by simpa using hj)) (fun h => by have h1 := hh (by simpa using h); simpa using h1)
/-- What the search answers. -/
def FBin (w : World) (ts : List FT) (key : Int) (e : Ending) (w' : World) : Prop :=
  ∃ (j : Nat) (b : Bool), e = .returned (.tuple #[.int .i64 (j : Int), .bool b]) ∧ j ≤ ts.length ∧ fpos (ts.map fl) key = j ∧ (b = true → key ∈ keys (ts.map fl) ∧ (keys (ts.map fl)).idxOf key = j) ∧ (b = false → key ∉ keys (ts.map fl)) ∧ Below w.heap.size w w'
/-- What cmp.Compare says. -/
def cmpI (a b : Int) : Int := if a < b then -1 else if b < a then 1 else 0

set_option maxHeartbeats 1000000 in
theorem cmp_isNaN (w : World) (a : Int) : Calls Try.prog 66 #[.int .i64 a] w fun e w' => e = .returned (.bool false) ∧ w = w' := by
  go_enter Try.func66, Try.ntmps66
  go_wp2
  go_ret
  exact ⟨rfl, rfl⟩
set_option maxHeartbeats 1000000 in
theorem cmp_Compare (w : World) (a b : Int) : Calls Try.prog 52 #[.int .i64 a, .int .i64 b] w fun e w' => e = .returned (.int .i64 (cmpI a b)) ∧ w = w' := by
  unfold cmpI
  by_cases h1 : a < b
  · rw [if_pos h1]
    go_enter Try.func52, Try.ntmps52
    go_wp2_with (go_at_call 66; refine (cmp_isNaN _ _).mono ?_; rintro e w' ⟨rfl, rfl⟩)
    go_ret
    exact ⟨rfl, rfl⟩
  rw [if_neg h1]
  by_cases h2 : b < a
  · rw [if_pos h2]
    go_enter Try.func52, Try.ntmps52
    go_wp2_with (go_at_call 66; refine (cmp_isNaN _ _).mono ?_; rintro e w' ⟨rfl, rfl⟩)
    go_ret
    exact ⟨rfl, rfl⟩
  rw [if_neg h2]
  go_enter Try.func52, Try.ntmps52
  go_wp2_with (go_at_call 66; refine (cmp_isNaN _ _).mono ?_; rintro e w' ⟨rfl, rfl⟩)
  go_ret
  exact ⟨rfl, rfl⟩
set_option maxHeartbeats 1000000 in
theorem I_JoinFlight1 (w : World) (p q k : Int) (a : Option Addr) (n c : Nat) : Calls Try.prog 51 #[.agg #[.int .i64 p, .int .i64 q, .slice a n c], .int .i64 k] w fun e w' => e = .returned (.int .i64 (cmpI p k)) ∧ Below w.heap.size w w' := by
  go_enter Try.func51, Try.ntmps51
  go_wp2_with (go_at_call 52; refine (cmp_Compare _ _ _).mono ?_; rintro e w' ⟨rfl, rfl⟩)
  go_ret
  exact ⟨rfl, below_alloc _ _⟩
set_option maxHeartbeats 4000000 in
set_option maxRecDepth 100000 in
theorem slices_BinarySearchF (w : World) (B C : Nat) (v : Value) (ts : List FT) (key : Int) (hr : RdF w B C v ts) (ho : keysOk (ts.map fl) = true) (hl : ts.length ≤ 6) :
    Calls Try.prog 50 #[v, .int .i64 key, .func (.func 51) #[] #[]] w (FBin w ts key) := by
  have HR := Lib.hid hr
  have HO := Lib.hid ho
  obtain ⟨a, cap, rfl, hcap, hnc, hc0⟩ := rdf_cells hr
  clear hc0 hnc hr ho
  go_enter Try.func50, Try.ntmps50
  go_wp2
  go_loopw [9, 10, 11] (fun vi vj _ wr => ∃ lo hi : Nat, lo ≤ hi ∧ hi ≤ ts.length ∧ vi = .int .i64 (lo : Int) ∧ vj = .int .i64 (hi : Int) ∧ (∀ m, m < lo → (hm : m < ts.length) → ts[m].1 < key) ∧ ((h : hi < ts.length) → key ≤ ts[hi].1) ∧ Below w.heap.size w wr) (fun i j _ _ => (intOf j).toNat - (intOf i).toNat)
  case atStart => exact ⟨0, ts.length, Nat.zero_le _, Nat.le_refl _, rfl, rfl, fun m h => absurd h (by omega), fun h => absurd h (by omega), Below.refl _ _⟩
  case round =>
    obtain ⟨lo, hi, hlh, hhl, rfl, rfl, hlo, hhi, hbel⟩ := hrel
    have HLO := Lib.hid hlo
    have HHI := Lib.hid hhi
    have HB := Lib.hid hbel
    clear hlo hhi
    by_cases hlt : lo < hi
    · obtain ⟨h, hh⟩ : ∃ h, (lo + hi) / 2 = h := ⟨_, rfl⟩
      have h1 : lo ≤ h := by omega
      have h2 : h < hi := by omega
      have hlt2 : h < ts.length := by omega
      obtain ⟨a', c', e, _, _, hc⟩ := rdf_cells (rdf_b HR.out hbel)
      simp only [Value.slice.injEq, true_and] at e
      obtain ⟨rfl, rfl⟩ := e
      rcases hc with hc | ⟨g9, off, rfl, hg, _, hg8, hc⟩
      · omega
      obtain ⟨e1, e2, e3⟩ := hc h hlt2
      obtain ⟨xa, xc, hx3⟩ := rd_sl (rdf_rd (rdf_b HR.out hbel) hlt2)
      rw [hx3] at e3
      obtain ⟨p, hp⟩ : ∃ p, ts[h].1 = p := ⟨_, rfl⟩
      obtain ⟨q, hq⟩ : ∃ q, ts[h].2.1 = q := ⟨_, rfl⟩
      obtain ⟨z, hz⟩ : ∃ z, ts[h].2.2.1.length = z := ⟨_, rfl⟩
      have HP := Lib.hid hp
      rw [hp] at e1
      rw [hq] at e2
      rw [hz] at e3
      clear hc hx3 hbel hp hq hz
      go_wp2_with fail
      refine (I_JoinFlight1 _ _ _ _ _ _ _).mono ?_
      rintro e w9 ⟨rfl, hb⟩
      have HB2 := Lib.hid (below_trans HB.out hb)
      clear hb
      have hh1 : ((lo : Int) + (hi : Int)) / 2 = (h : Int) := by omega
      rw [hh1]
      by_cases hpk : p < key
      · have hcm : cmpI p key = -1 := by unfold cmpI; rw [if_pos hpk]
        rw [hcm]
        clear hcm
        go_wp2_with fail
        go_roundw
        case rel => exact ⟨h + 1, hi, by omega, by omega, by go_num, rfl, fun m hm hm2 => by
          by_cases hm3 : m = h
          · subst hm3; rw [HP.out]; exact hpk
          · have := keysOk_lt HO.out (show m < h by omega) hlt2
            rw [HP.out] at this; omega, HHI.out, HB2.out⟩
        case measure => simp [intOf]; omega
      · have hcm : decide (cmpI p key < 0) = false := by unfold cmpI; rw [if_neg hpk]; split <;> rfl
        obtain ⟨c, hc⟩ : ∃ c, cmpI p key = c := ⟨_, rfl⟩
        rw [hc] at hcm ⊢
        clear hc
        go_wp2_with fail
        go_roundw
        case rel => exact ⟨lo, h, by omega, by omega, rfl, rfl, HLO.out, fun _ => by rw [HP.out]; omega, HB2.out⟩
        case measure => simp [intOf]; omega
    · obtain rfl : lo = hi := by omega
      have HF := Lib.hid (fpos_at hhl HLO.out HHI.out)
      by_cases hlt2 : lo < ts.length
      · obtain ⟨a', c', e, _, _, hc⟩ := rdf_cells (rdf_b HR.out hbel)
        simp only [Value.slice.injEq, true_and] at e
        obtain ⟨rfl, rfl⟩ := e
        rcases hc with hc | ⟨g9, off, rfl, hg, _, hg8, hc⟩
        · omega
        obtain ⟨e1, e2, e3⟩ := hc lo hlt2
        obtain ⟨xa, xc, hx3⟩ := rd_sl (rdf_rd (rdf_b HR.out hbel) hlt2)
        rw [hx3] at e3
        obtain ⟨p, hp⟩ : ∃ p, ts[lo].1 = p := ⟨_, rfl⟩
        obtain ⟨q, hq⟩ : ∃ q, ts[lo].2.1 = q := ⟨_, rfl⟩
        obtain ⟨z, hz⟩ : ∃ z, ts[lo].2.2.1.length = z := ⟨_, rfl⟩
        have HP := Lib.hid hp
        rw [hp] at e1
        rw [hq] at e2
        rw [hz] at e3
        clear hc hx3 hbel hp hq hz
        go_wp2_with fail
        refine (I_JoinFlight1 _ _ _ _ _ _ _).mono ?_
        rintro e w9 ⟨rfl, hb⟩
        have HB2 := Lib.hid (below_trans HB.out hb)
        clear hb
        by_cases hpk : p = key
        · have hcm : cmpI p key = 0 := by unfold cmpI; rw [if_neg (by omega), if_neg (by omega)]
          rw [hcm]
          clear hcm
          go_wp2_with fail
          refine bodyPost_ret (v := .tuple #[.int .i64 (lo : Int), .bool true]) (by simp [results, Try.results50, go_sem]) rfl ⟨lo, true, rfl, hhl, HF.out, fun _ => bin_in hlt2 HLO.out (HP.out.trans hpk), fun h => (by cases h), HB2.out⟩
        · have hcm : (cmpI p key == 0) = false := by unfold cmpI; split <;> (try split) <;> first | rfl | omega
          obtain ⟨c, hc⟩ : ∃ c, cmpI p key = c := ⟨_, rfl⟩
          rw [hc] at hcm ⊢
          clear hc
          go_wp2_with fail
          refine bodyPost_ret (v := .tuple #[.int .i64 (lo : Int), .bool false]) (by simp [results, Try.results50, go_sem]) rfl ⟨lo, false, rfl, hhl, HF.out, fun h => (by cases h), fun _ => bin_out HO.out HLO.out HHI.out (fun _ => by rw [HP.out]; exact hpk), HB2.out⟩
      · go_wp2_with fail
        refine bodyPost_ret (v := .tuple #[.int .i64 (lo : Int), .bool false]) (by simp [results, Try.results50, go_sem]) rfl ⟨lo, false, rfl, hhl, HF.out, fun h => (by cases h), fun _ => bin_out HO.out HLO.out HHI.out (fun h => absurd h hlt2), HB.out⟩
end Go.Proofs.Ytafpnkcdoeicgaa
