/- Contracts of slices.IndexFunc and slices.Delete over flights. -/
import Derived.Test.YtafpnkcdoeicgaaLandPlain
import Derived.Deep.RegionHeld3
import Derived.Deep.RegionLaw
import Derived.Deep.DrawnRows
import Derived.Laws.IdiomCopy
import Derived.Lib.SliceRun
namespace Go.Proofs.Ytafpnkcdoeicgaa
open Go.RowKit
attribute [local go_sem ↓] Go.wp_at_zero Go.wp_at_succ

theorem fr_setCells (b lo hi : Nat) (h : lo ≤ b ∧ b < hi) : ∀ (vs : List Value) (o : Nat) (w : World), Fr w (w.setCells b o vs) lo hi
  | [], _, w => fr_refl w lo hi
  | v :: vs, o, w => fr_trans (fr_set w ⟨b, o, none⟩ v h) (fr_setCells b lo hi h vs (o + 1) _)
/-- 'clear(s)' where an element has several cells. -/
theorem run_clear_sliceK {P : Program} (w : World) (t e ty : TypeId) (z : Value) (zs : List Value) (ht : P.underlying t = some (.slice e)) (hv : ∀ w, (zeroValue e).run P w = .ok z w) (b o n c : Nat) (hn : 0 < n) (hz : (Builtin.zeroCells z.cells n).toList = zs)
    (h1 : ∀ v ∈ zs, v.oneCell' = true) (hc : ∀ j, j < zs.length → (w.cell? ⟨b, o + j, none⟩).isSome = true) (hf : ∀ j, j < zs.length → w.frozen? ⟨b, o + j, none⟩ = false) :
    (Builtin.clear_ #[t] ty #[.slice (some ⟨b, o, none⟩) n c]).run P w = .ok (.tuple #[]) (w.setCells b o zs) := by
  have hst := run_storeCells_cells (P := P) b o zs 0 w (by simpa using hc) (by simpa using hf) h1
  simp only [Nat.add_zero] at hst
  obtain ⟨m, rfl⟩ : ∃ m, n = m + 1 := ⟨n - 1, by omega⟩
  simp [Builtin.clear_, run_underlying ht, hv, hz, hst]
/-- The cells behind a flight are moved to the left, the last ones cleared. -/
theorem del_cells {w : World} {g k n : Nat} {ts : List FT} {zs : List Value} (hn : ts.length = n) (hk : k < n) (hc : ∀ j, j < n * 3 → w.cell? ⟨g, j, none⟩ = (tcs ts)[j]?) :
    ∀ j x, (tcs (ts.take k ++ ts.drop (k + 1)))[j]? = some x → ((w.drew.setCells g (k * 3) (tcs (ts.drop (k + 1)))).setCells g ((n - 1) * 3) zs).cell? ⟨g, j, none⟩ = some x := by
  intro j x hx
  have hl : (tcs (ts.take k ++ ts.drop (k + 1))).length = (n - 1) * 3 := by rw [tcs_len]; simp; omega
  have hj : j < (n - 1) * 3 := by rw [← hl]; exact (List.getElem?_eq_some_iff.1 hx).1
  have e1 : (tcs (ts.take k)).length = k * 3 := by rw [tcs_len]; simp; omega
  have e2 : (tcs (ts.drop (k + 1))).length = (n - 1) * 3 - k * 3 := by rw [tcs_len]; simp; omega
  have hw : ∀ a, w.drew.cell? a = w.cell? a := fun _ => rfl
  rw [World.cell?_setCells_out g zs _ _ _ (fun _ _ => .inl hj)]
  rw [tcs_append] at hx
  by_cases h : j < k * 3
  · rw [World.cell?_setCells_out g _ _ _ _ (fun _ _ => .inl h), hw, hc j (by omega)]
    rw [List.getElem?_append_left (by omega), tcs_take, List.getElem?_take_of_lt h] at hx
    exact hx
  · rw [List.getElem?_append_right (by omega), e1] at hx
    have h2 := World.cell?_setCells_in g (tcs (ts.drop (k + 1))) (k * 3) w.drew (fun i hi => by
      rw [hw, hc _ (by omega), List.getElem?_eq_getElem (by rw [tcs_len]; omega)]; rfl) (j - k * 3) (by omega)
    rw [show k * 3 + (j - k * 3) = j by omega] at h2
    rw [h2, ← hx, List.getElem?_eq_getElem]
theorem del_rdf {w w' : World} {T B C g cap k : Nat} {ts : List FT} (h : OwF w T B C (.slice (some ⟨g, 0, none⟩) ts.length cap) ts) (hk : k < ts.length) (hf : Fr w w' g (g + 1)) (hc : ∀ j x, (tcs (ts.take k ++ ts.drop (k + 1)))[j]? = some x → w'.cell? ⟨g, j, none⟩ = some x) :
    RdF w' B w'.heap.size (.slice (some ⟨g, 0, none⟩) (ts.length - 1) cap) (ts.take k ++ ts.drop (k + 1)) := by
  have hlen : (ts.take k ++ ts.drop (k + 1)).length = ts.length - 1 := by simp; omega
  have hgC := h.2.1 g rfl
  have hgB := own_lo h.1 g rfl
  have hC := h.2.2.2.2.2
  have hs := hf.size
  refine ⟨⟨_, cap, by rw [hlen], by have := row_cap h.1; omega, fun e => by simp at e, by rw [tcs_len], .inr ⟨g, 0, rfl, by omega, fun j x hx => by rw [Nat.zero_add]; exact hc j x hx⟩⟩, fun _ x hx => ?_, fun t ht => ?_, Nat.le_refl _⟩
  · simp only [Value.ownBlock, Option.some.injEq] at hx; omega
  · have hm : t ∈ ts := by
      rcases List.mem_append.1 ht with ht | ht
      · exact List.mem_of_mem_take ht
      · exact List.mem_of_mem_drop ht
    have h1 := owi_rdi (h.2.2.1 t hm)
    have h2 : RdI w' B C (fv t) (fw t) := ⟨rd_fr h1.1 hf (fun _ x hx => by have := h.2.2.2.1 t hm g x rfl hx; omega), h1.2⟩
    exact rdi_mono h2 (Nat.le_refl _) (by omega)
/-- What Delete answers. -/
def Del (w : World) (B g : Nat) (ts : List FT) (k : Nat) (e : Ending) (w' : World) : Prop :=
  ∃ cap, e = .returned (.slice (some ⟨g, 0, none⟩) (ts.length - 1) cap) ∧ RdF w' B w'.heap.size (.slice (some ⟨g, 0, none⟩) (ts.length - 1) cap) (ts.take k ++ ts.drop (k + 1)) ∧ Fr w w' g (g + 1)
/-- What IndexFunc answers. -/
def FIdx (w : World) (ts : List FT) (key t : Int) (e : Ending) (w' : World) : Prop :=
  ((∃ k, ∃ hk : k < ts.length, e = .returned (.int .i64 (k : Int)) ∧ ts[k].1 = key ∧ ts[k].2.1 = t) ∨ (e = .returned (.int .i64 (-1)) ∧ ∀ f ∈ ts.map fl, ¬ (f.1 = key ∧ f.2.1 = t))) ∧ Below w.heap.size w w'

set_option maxHeartbeats 400000 in
theorem I_LandFlight1 (w : World) (r1 r2 : Nat) (p q : Int) (a : Option Addr) (n c : Nat) (key t : Int) (h1 : w.cell? ⟨r1, 0, none⟩ = some (.int .i64 key)) (h2 : w.cell? ⟨r2, 0, none⟩ = some (.int .i64 t)) :
    Calls Try.prog 55 #[.agg #[.int .i64 p, .int .i64 q, .slice a n c], .pointer (some ⟨r1, 0, none⟩), .pointer (some ⟨r2, 0, none⟩)] w fun e w' => e = .returned (.bool (decide (p = key) && decide (q = t))) ∧ Below w.heap.size w w' := by
  have c1 := fun o => cell_b h1 (below_alloc _ o)
  have c2 := fun o => cell_b h2 (below_alloc _ o)
  by_cases hp : p = key
  · subst hp
    go_enter Try.func55, Try.ntmps55
    go_wp2
    go_ret
    exact ⟨by simp; by_cases hq : q = t <;> simp [hq], below_alloc _ _⟩
  · have hp2 : (p == key) = false := by simpa using hp
    go_enter Try.func55, Try.ntmps55
    go_wp2
    go_ret
    exact ⟨by simp [hp], below_alloc _ _⟩
set_option maxHeartbeats 1000000 in
theorem slices_IndexFuncF (w : World) (B C : Nat) (v : Value) (ts : List FT) (r1 r2 : Nat) (key t : Int) (hr : RdF w B C v ts) (hl : ts.length ≤ 4294967296) (h1 : w.cell? ⟨r1, 0, none⟩ = some (.int .i64 key)) (h2 : w.cell? ⟨r2, 0, none⟩ = some (.int .i64 t)) :
    Calls Try.prog 54 #[v, .func (.func 55) #[] #[.pointer (some ⟨r1, 0, none⟩), .pointer (some ⟨r2, 0, none⟩)]] w (FIdx w ts key t) := by
  have HR := Lib.hid hr
  have HX := Lib.hid h1
  have HY := Lib.hid h2
  obtain ⟨a, cap, rfl, hcap, hnc, hc0⟩ := rdf_cells hr
  clear hc0 hnc hr h1 h2
  go_enter Try.func54, Try.ntmps54
  go_wp2
  go_loopw [8] (fun i wr => ∃ k : Nat, k ≤ ts.length ∧ i = .int .i64 k ∧ (∀ m, m < k → (hm : m < ts.length) → ¬ (ts[m].1 = key ∧ ts[m].2.1 = t)) ∧ Below w.heap.size w wr) (fun i _ => ts.length - (intOf i).toNat)
  case atStart => exact ⟨0, Nat.zero_le _, rfl, fun m hm => absurd hm (by omega), Below.refl _ _⟩
  case round =>
    obtain ⟨k, hk, rfl, hn, hbel⟩ := hrel
    have HN := Lib.hid hn
    clear hn
    by_cases hlt : k < ts.length
    · obtain ⟨a', c', e, _, _, hc⟩ := rdf_cells (rdf_b HR.out hbel)
      simp only [Value.slice.injEq, true_and] at e
      obtain ⟨rfl, rfl⟩ := e
      rcases hc with hc | ⟨g9, off, rfl, hg, _, hg8, hc⟩
      · omega
      obtain ⟨e1, e2, e3⟩ := hc k hlt
      obtain ⟨xa, xc, hx3⟩ := rd_sl (rdf_rd (rdf_b HR.out hbel) hlt)
      rw [hx3] at e3
      obtain ⟨p, hp⟩ : ∃ p, ts[k].1 = p := ⟨_, rfl⟩
      obtain ⟨q, hq⟩ : ∃ q, ts[k].2.1 = q := ⟨_, rfl⟩
      obtain ⟨z, hz⟩ : ∃ z, ts[k].2.2.1.length = z := ⟨_, rfl⟩
      have HP := Lib.hid hp
      have HQ := Lib.hid hq
      have HB := Lib.hid hbel
      rw [hp] at e1
      rw [hq] at e2
      rw [hz] at e3
      clear hc hx3 hbel hp hq hz
      go_wp2_with fail
      refine (I_LandFlight1 _ r1 r2 _ _ _ _ _ key t (cell_b HX.out HB.out) (cell_b HY.out HB.out)).mono ?_
      rintro e w9 ⟨rfl, hb⟩
      have HB2 := Lib.hid (below_trans HB.out hb)
      clear hb
      by_cases hpk : p = key ∧ q = t
      · have hcm : (decide (p = key) && decide (q = t)) = true := by rw [decide_eq_true hpk.1, decide_eq_true hpk.2]; rfl
        have HPK := Lib.hid hpk
        rw [hcm]
        clear hcm hpk
        go_wp2_with fail
        go_ret
        exact ⟨.inl ⟨k, hlt, rfl, HP.out.trans HPK.out.1, HQ.out.trans HPK.out.2⟩, HB2.out⟩
      · have hcm : (decide (p = key) && decide (q = t)) = false := by
          rw [Bool.and_eq_false_iff, decide_eq_false_iff_not, decide_eq_false_iff_not]; by_cases h : p = key
          · exact .inr (fun h2 => hpk ⟨h, h2⟩)
          · exact .inl h
        have HPK := Lib.hid hpk
        rw [hcm]
        clear hcm hpk
        go_wp2_with fail
        go_roundw
        case rel => exact ⟨k + 1, by omega, by go_num, fun m hm hm2 => by
          by_cases hm3 : m = k
          · subst hm3; rw [HP.out, HQ.out]; exact HPK.out
          · exact HN.out m (by omega) hm2, HB2.out⟩
        case measure => simp [intOf]; omega
    · obtain rfl : k = ts.length := by omega
      go_wp2
      go_ret
      exact ⟨.inr ⟨rfl, fun f hf => by obtain ⟨x, hx, rfl⟩ := List.mem_map.1 hf; obtain ⟨i, hi, rfl⟩ := List.mem_iff_getElem.1 hx; exact HN.out i hi hi⟩, hbel⟩
set_option maxHeartbeats 4000000 in
set_option maxRecDepth 100000 in
theorem slices_DeleteF (w : World) (B C g cap : Nat) (ts : List FT) (k : Nat) (hof : OwF w 47 B C (.slice (some ⟨g, 0, none⟩) ts.length cap) ts) (hk : k < ts.length) (hl : ts.length ≤ 6) :
    Calls Try.prog 56 #[.slice (some ⟨g, 0, none⟩) ts.length cap, .int .i64 (k : Int), .int .i64 ((k : Int) + 1)] w (Del w B g ts k) := by
  obtain ⟨j0, hj, hy0, hy1, hy2⟩ := info_parts infoF
  have HOF := Lib.hid hof
  have hcp := row_cap hof.1
  have hcell0 : ∀ j, j < ts.length * 3 → w.cell? ⟨g, j, none⟩ = (tcs ts)[j]? := fun j h => hof.1.cellAt j h
  have hfrz0 : ∀ j, w.frozen? ⟨g, j, none⟩ = false := fun j => hof.1.frozenAt j
  clear hof
  obtain ⟨n, hn⟩ : ∃ n, ts.length = n := ⟨_, rfl⟩
  rw [hn] at hk hl hcp hcell0 ⊢
  have HN := Lib.hid hn
  have HCE := Lib.hid hcell0
  clear hn hcell0
  have hlen : (tcs (ts.drop (k + 1))).length = (n - (k + 1)) * 3 := by rw [tcs_len]; simp [HN.out]
  have hsome : ∀ j, j < n * 3 → (w.cell? ⟨g, j, none⟩).isSome = true := fun j h => by
    rw [HCE.out j h, List.getElem?_eq_getElem (by rw [tcs_len, HN.out]; exact h)]; rfl
  have hA : ∃ A : Addr, (if cap = k + 1 then some (⟨g, 0, none⟩ : Addr) else some ⟨g, (k + 1) * 3, none⟩) = some A ∧ Hid (∀ t u, (tcs (ts.drop (k + 1)))[t]? = some u → w.drew.cell? (A.add t) = some u) := by
    by_cases h : cap = k + 1
    · refine ⟨⟨g, 0, none⟩, by simp [h], Lib.hid (fun t u hu => ?_)⟩
      have h0 : (tcs (ts.drop (k + 1))).length = 0 := by rw [hlen]; omega
      rw [List.length_eq_zero_iff.1 h0] at hu
      simp at hu
    · refine ⟨⟨g, (k + 1) * 3, none⟩, by simp [h], Lib.hid (fun t u hu => ?_)⟩
      have ht : t < (n - (k + 1)) * 3 := by rw [← hlen]; exact (List.getElem?_eq_some_iff.1 hu).1
      rw [Addr.add_lit]
      show w.cell? _ = _
      rw [HCE.out _ (by omega), ← hu, tcs_drop, List.getElem?_drop]
  obtain ⟨A, hA1, hsrc⟩ := hA
  have s1 : Hid ((tcs (ts.drop (k + 1))).length = (n - (k + 1)) * 3) := Lib.hid hlen
  have s2 : Hid (∀ u ∈ tcs (ts.drop (k + 1)), u.oneCell' = true) := Lib.hid (tcs_one (fun t ht => owf_one HOF.out t (List.mem_of_mem_drop ht)))
  have s3 : Hid (∀ t, t < (tcs (ts.drop (k + 1))).length → (w.drew.cell? ⟨g, 0 + k * 3 + t, none⟩).isSome = true ∧ w.drew.frozen? ⟨g, 0 + k * 3 + t, none⟩ = false) := Lib.hid (fun t ht => by
    rw [hlen] at ht
    exact ⟨hsome _ (by omega), hfrz0 _⟩)
  obtain ⟨W1, hW1⟩ : ∃ W1, W1 = w.drew.setCells g (0 + k * 3) (tcs (ts.drop (k + 1))) := ⟨_, rfl⟩
  have hcl : ∀ ty, (Builtin.clear_ #[25] ty #[.slice (some ⟨g, (k + (n - (k + 1))) * 3, none⟩) (n - (k + (n - (k + 1)))) (cap - (k + (n - (k + 1))))]).run Try.prog W1 = .ok (.tuple #[]) (W1.setCells g ((n - 1) * 3) [.int .i64 0, .int .i64 0, .slice none 0 0]) := fun ty => by
    have e1 : k + (n - (k + 1)) = n - 1 := by omega
    have e2 : n - (n - 1) = 1 := by omega
    rw [e1, e2]
    exact run_clear_sliceK W1 _ _ ty (.agg #[.int .i64 0, .int .i64 0, .slice none 0 0]) _ Try.underlying25 (fun w => by kernel_rfl) g _ 1 _ (by omega) (by kernel_rfl) (by simp [Value.oneCell']) (fun j hj => by
      rw [hW1]; exact World.isSome_setCells g _ _ _ _ (hsome _ (by simp at hj; omega))) (fun j hj => by rw [hW1, World.frozen?_setCells]; exact hfrz0 _)
  have hW : Hid (W1 = w.drew.setCells g (0 + k * 3) (tcs (ts.drop (k + 1)))) := Lib.hid hW1
  clear hW1 hlen hsome hfrz0
  have hkc : k ≤ cap := by omega
  have hkc1 : (k : Int) ≤ (cap : Int) := by omega
  have hkn : (k : Int) + 1 ≤ (n : Int) := by omega
  have hk1 : (0 : Int) ≤ (k : Int) + 1 := by omega
  have hk1c : (k : Int) + 1 ≤ (cap : Int) := by omega
  have htn : ((k : Int) + 1).toNat = k + 1 := by omega
  have hnc : (n : Int) ≤ (cap : Int) := by omega
  have hke : ((k : Int) == (k : Int) + 1) = false := by simp; omega
  have hkn2 : k + 1 ≤ n := by omega
  have hkcN : k + 1 ≤ cap := by omega
  go_enter Try.func56, Try.ntmps56
  go_wp2_with fail
  go_region_law (refine step_append_room rfl (.tmp 22) (.tmp 25) 25 rfl 47 j0 3 Try.underlying25 hj hy1 g 0 k cap (by simp [Act.eval, Act.put]) A (n - (k + 1)) (cap - (k + 1)) (tcs (ts.drop (k + 1))) (by simp [Act.eval, Act.put]; done) s1.out hsrc.out s2.out (by omega) s3.out ?_; rw [← hW.out])
  go_wp2_with fail
  go_ret
  have hF : Fr w (W1.setCells g ((n - 1) * 3) [.int .i64 0, .int .i64 0, .slice none 0 0]) g (g + 1) := by
    rw [hW.out]
    exact fr_trans (fr_b (drew_below w)) (fr_trans (fr_setCells g g (g + 1) ⟨Nat.le_refl _, Nat.lt_succ_self _⟩ _ _ _) (fr_setCells g g (g + 1) ⟨Nat.le_refl _, Nat.lt_succ_self _⟩ _ _ _))
  refine ⟨cap, by rw [HN.out, show n - 1 = k + (n - (k + 1)) by omega]; rfl, del_rdf HOF.out (by rw [HN.out]; exact hk) hF (fun j x hx => ?_), hF⟩
  have h := del_cells (zs := [.int .i64 0, .int .i64 0, .slice none 0 0]) HN.out hk HCE.out j x hx
  rw [hW.out, Nat.zero_add]
  exact h
end Go.Proofs.Ytafpnkcdoeicgaa
