/- The contracts of PlaceOf. -/
import Derived.Test.YtcbdpcalmafdiaaSemValid
namespace Go.Proofs.Ytcbdpcalmafdiaa
open Go.RowKit

/-- What PlaceOf hands back. -/
def place (f l : Int) (ws : List (Int × Int)) (t : Int) : Int × Bool := if sval f l ws = true ∧ t ∈ ws.map Prod.fst then (atF (ws.map Prod.fst) t, true) else (0, false)
theorem place_no1 {f l : Int} {ws : List (Int × Int)} {t : Int} (h : sval f l ws = false) : place f l ws t = (0, false) := by unfold place; rw [if_neg (by rw [h]; simp)]
theorem place_no2 {f l : Int} {ws : List (Int × Int)} {t : Int} (h : t ∉ ws.map Prod.fst) : place f l ws t = (0, false) := by unfold place; rw [if_neg (fun hh => h hh.2)]
theorem place_yes {f l : Int} {ws : List (Int × Int)} {t : Int} (h : sval f l ws = true) (hm : t ∈ ws.map Prod.fst) : place f l ws t = (atF (ws.map Prod.fst) t, true) := by unfold place; rw [if_pos ⟨h, hm⟩]

set_option maxHeartbeats 1000000 in
theorem I_PlaceOf (w : World) (f l : Int) (v : Value) (ws : List (Int × Int)) (t : Int) (hr : RdW w v ws) (hl : ws.length ≤ 4294967296) :
    Calls Try.prog 15 #[.agg #[.int .i64 f, .int .i64 l, v], .int .i64 t] w fun e w' => e = .returned (.tuple #[.int .i64 (place f l ws t).1, .bool (place f l ws t).2]) ∧ Below w.heap.size w w' := by
  have HR := Lib.hid hr
  obtain ⟨a, cap, rfl, hcap, hnc, hr⟩ := rdw_cells hr
  clear hnc hr
  by_cases hv : sval f l ws = true
  · by_cases hm : t ∈ ws.map Prod.fst
    · have HP := Lib.hid (place_yes hv hm)
      have HV := Lib.hid hv
      obtain ⟨q, hq⟩ : ∃ q, atF (ws.map Prod.fst) t = q := ⟨_, rfl⟩
      have hq0 : 0 ≤ q := by rw [← hq]; exact atF_nonneg.2 hm
      have HQ := Lib.hid hq
      clear hv hm hq
      go_enter Try.func15, Try.ntmps15
      go_wp2_with fail
      refine (I_SemValid _ f l _ ws (rdx_alloc HR.out _) hl).mono ?_
      rintro e w1 ⟨rfl, hb⟩
      have c0 := cell_b (p := ⟨w.heap.size, 0, none⟩) (v := .int .i64 f) (by simp) hb
      have c1 := cell_b (p := ⟨w.heap.size, 1, none⟩) (v := .int .i64 l) (by simp) hb
      have c2 := cell_b (p := ⟨w.heap.size, 2, none⟩) (v := .slice a ws.length cap) (by simp) hb
      have HB1 := Lib.hid (below_trans (below_alloc _ _) hb)
      clear hb
      rw [HV.out]
      go_wp2_with fail
      refine (I_find _ f l _ ws t (rdx_b HR.out HB1.out) hl).mono ?_
      rintro e w2 ⟨rfl, hb⟩
      have d0 := cell_b c0 hb
      have d1 := cell_b c1 hb
      have d2 := cell_b c2 hb
      have HB2 := Lib.hid (below_trans HB1.out hb)
      clear hb c0 c1 c2
      rw [HQ.out]
      go_wp2_with fail
      refine (I_find _ f l _ ws t (rdx_b HR.out HB2.out) hl).mono ?_
      rintro e w3 ⟨rfl, hb⟩
      have HB3 := Lib.hid (below_trans HB2.out hb)
      clear hb d0 d1 d2
      rw [HQ.out]
      go_wp2_with fail
      go_ret2
      exact ⟨by rw [HP.out, HQ.out]; rfl, HB3.out⟩
    · have HP := Lib.hid (place_no2 (f := f) (l := l) hm)
      have HV := Lib.hid hv
      have HQ := Lib.hid (atF_miss (xs := ws.map Prod.fst) (x := t) (k := (ws.map Prod.fst).length) (Nat.le_refl _) (by rw [List.take_of_length_le (Nat.le_refl _)]; exact hm))
      clear hv hm
      go_enter Try.func15, Try.ntmps15
      go_wp2_with fail
      refine (I_SemValid _ f l _ ws (rdx_alloc HR.out _) hl).mono ?_
      rintro e w1 ⟨rfl, hb⟩
      have c0 := cell_b (p := ⟨w.heap.size, 0, none⟩) (v := .int .i64 f) (by simp) hb
      have c1 := cell_b (p := ⟨w.heap.size, 1, none⟩) (v := .int .i64 l) (by simp) hb
      have c2 := cell_b (p := ⟨w.heap.size, 2, none⟩) (v := .slice a ws.length cap) (by simp) hb
      have HB1 := Lib.hid (below_trans (below_alloc _ _) hb)
      clear hb
      rw [HV.out]
      go_wp2_with fail
      refine (I_find _ f l _ ws t (rdx_b HR.out HB1.out) hl).mono ?_
      rintro e w2 ⟨rfl, hb⟩
      have HB2 := Lib.hid (below_trans HB1.out hb)
      clear hb c0 c1 c2
      rw [HQ.out]
      go_wp2_with fail
      go_ret2
      exact ⟨by rw [HP.out]; rfl, HB2.out⟩
  · have hv' : sval f l ws = false := by simpa using hv
    have HP := Lib.hid (place_no1 (t := t) hv')
    have HV := Lib.hid hv'
    clear hv hv'
    go_enter Try.func15, Try.ntmps15
    go_wp2_with fail
    refine (I_SemValid _ f l _ ws (rdx_alloc HR.out _) hl).mono ?_
    rintro e w1 ⟨rfl, hb⟩
    have HB := Lib.hid (below_trans (below_alloc _ _) hb)
    clear hb
    rw [HV.out]
    go_wp2_with fail
    go_ret2
    exact ⟨by rw [HP.out]; rfl, HB.out⟩
set_option maxHeartbeats 1000000 in
theorem S_PlaceOf (w : World) (f l : Int) (v : Value) (ws : List (Int × Int)) (t : Int) (hr : RdW w v ws) (hl : ws.length ≤ 4294967296) :
    Calls Try.prog 14 #[.agg #[.int .i64 f, .int .i64 l, v], .int .i64 t] w fun e w' => e = .returned (.tuple #[.int .i64 (place f l ws t).1, .bool (place f l ws t).2]) ∧ Below w.heap.size w w' := by
  have HR := Lib.hid hr
  obtain ⟨a, cap, rfl, hcap, hnc, hr⟩ := rdw_cells hr
  clear hnc hr
  by_cases hv : sval f l ws = true
  · by_cases hm : t ∈ ws.map Prod.fst
    · have HP := Lib.hid (place_yes hv hm)
      have HV := Lib.hid hv
      obtain ⟨q, hq⟩ : ∃ q, atF (ws.map Prod.fst) t = q := ⟨_, rfl⟩
      have hq0 : 0 ≤ q := by rw [← hq]; exact atF_nonneg.2 hm
      have HQ := Lib.hid hq
      clear hv hm hq
      go_enter Try.func14, Try.ntmps14
      go_wp2_with fail
      refine (S_l1Find _ _ ws t (rdx_alloc HR.out _) hl).mono ?_
      rintro e w1 ⟨rfl, rfl⟩
      rw [HQ.out]
      go_wp2_with fail
      refine (S_SemValid _ f l _ ws (rdx_alloc HR.out _) hl).mono ?_
      rintro e w1 ⟨rfl, hb⟩
      have HB := Lib.hid (below_trans (below_alloc _ _) hb)
      clear hb
      rw [HV.out]
      go_wp2_with fail
      go_ret2
      exact ⟨by rw [HP.out, HQ.out]; rfl, HB.out⟩
    · have HP := Lib.hid (place_no2 (f := f) (l := l) hm)
      have HV := Lib.hid hv
      have HQ := Lib.hid (atF_miss (xs := ws.map Prod.fst) (x := t) (k := (ws.map Prod.fst).length) (Nat.le_refl _) (by rw [List.take_of_length_le (Nat.le_refl _)]; exact hm))
      clear hv hm
      go_enter Try.func14, Try.ntmps14
      go_wp2_with fail
      refine (S_l1Find _ _ ws t (rdx_alloc HR.out _) hl).mono ?_
      rintro e w1 ⟨rfl, rfl⟩
      rw [HQ.out]
      go_wp2_with fail
      refine (S_SemValid _ f l _ ws (rdx_alloc HR.out _) hl).mono ?_
      rintro e w1 ⟨rfl, hb⟩
      have HB := Lib.hid (below_trans (below_alloc _ _) hb)
      clear hb
      rw [HV.out]
      go_wp2_with fail
      go_ret2
      exact ⟨by rw [HP.out]; rfl, HB.out⟩
  · have hv' : sval f l ws = false := by simpa using hv
    have HP := Lib.hid (place_no1 (t := t) hv')
    have HV := Lib.hid hv'
    clear hv hv'
    go_enter Try.func14, Try.ntmps14
    go_wp2_with fail
    refine (S_l1Find _ _ ws t (rdx_alloc HR.out _) hl).mono ?_
    rintro e w1 ⟨rfl, rfl⟩
    go_wp2_with fail
    refine (S_SemValid _ f l _ ws (rdx_alloc HR.out _) hl).mono ?_
    rintro e w1 ⟨rfl, hb⟩
    have HB := Lib.hid (below_trans (below_alloc _ _) hb)
    clear hb
    rw [HV.out]
    go_wp2_with fail
    go_ret2
    exact ⟨by rw [HP.out]; rfl, HB.out⟩
end Go.Proofs.Ytcbdpcalmafdiaa
