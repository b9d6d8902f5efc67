/- impl.JoinFlight that says no. -/
import Derived.Test.YtafpnkcdoeicgaaJoinS
import Derived.Deep.RegionHeld3
import Derived.Deep.RegionLaw
import Derived.Deep.DrawnRows
namespace Go.Proofs.Ytafpnkcdoeicgaa
open Go.RowKit
attribute [local go_sem ↓] Go.wp_at_zero Go.wp_at_succ

set_option maxHeartbeats 4000000 in
set_option maxRecDepth 100000 in
theorem I_JoinFlight_no (w : World) (B C : Nat) (v : Value) (ts : List FT) (key t : Int) (hr : RdF w B C v ts) (hl : ts.length + tsum ts ≤ 4294967296) (hno : joinOk (ts.map fl) key t = false) :
    Calls Try.prog 20 #[v, .int .i64 key, .int .i64 t] w fun e w' => e = .returned (.tuple #[.slice none 0 0, .bool false, .bool false]) ∧ Below w.heap.size w w' := by
  have HNO := Lib.hid hno
  clear hno
  obtain ⟨i0, hi, hz0, hz1, hz2⟩ := info_parts info3
  have r_A_0 := Lib.hid hr
  clear hr
  by_cases hv : fval (ts.map fl) = true
  rotate_left
  · have HV : Hid (fval (ts.map fl) = false) := Lib.hid (by simpa using hv)
    clear hv
    go_enter Try.func20, Try.ntmps20
    have T_0 : Hid (Below w.heap.size w w) := Lib.hid (Below.refl _ _)
    go_wp2_with fail
    (with_reducible refine (I_FlightsValid_q _ _ _ _ ts _ (r_A_0.out) hl HV.out).mono ?_)
    rintro e w1 ⟨rfl, hb⟩
    have r_A_1 := Lib.hid (rdf_b (r_A_0.out) hb)
    have T_1 := Lib.hid (below_trans (T_0.out) hb)
    have z_1 : w.heap.size ≤ w1.heap.size := (by have := hb.size; (try simp at this); omega)
    clear hb r_A_0 T_0
    go_wp2_with fail
    refine bodyPost_ret (v := .tuple #[.slice none 0 0, .bool false, .bool false]) (by simp [results, Try.results20, go_sem]) rfl ⟨rfl, (T_1.out)⟩
  by_cases ht : thr t = true
  rotate_left
  · have HV : Hid (fval (ts.map fl) = true) := Lib.hid hv
    clear hv
    have HT : Hid (thr t = false) := Lib.hid (by simpa using ht)
    clear ht
    go_enter Try.func20, Try.ntmps20
    have T_0 : Hid (Below w.heap.size w w) := Lib.hid (Below.refl _ _)
    go_wp2_with fail
    (with_reducible refine (I_FlightsValid_q _ _ _ _ ts _ (r_A_0.out) hl HV.out).mono ?_)
    rintro e w1 ⟨rfl, hb⟩
    have r_A_1 := Lib.hid (rdf_b (r_A_0.out) hb)
    have T_1 := Lib.hid (below_trans (T_0.out) hb)
    have z_1 : w.heap.size ≤ w1.heap.size := (by have := hb.size; (try simp at this); omega)
    clear hb r_A_0 T_0
    go_wp2_with fail
    (with_reducible refine (I_isThread _ t).mono ?_)
    rintro e w9 ⟨rfl, rfl⟩
    rw [HT.out]
    go_wp2_with fail
    refine bodyPost_ret (v := .tuple #[.slice none 0 0, .bool false, .bool false]) (by simp [results, Try.results20, go_sem]) rfl ⟨rfl, (T_1.out)⟩
  by_cases hb9 : hasB (thrs (ts.map fl)) t = true
  · have HV : Hid (fval (ts.map fl) = true) := Lib.hid hv
    clear hv
    have HT : Hid (thr t = true) := Lib.hid ht
    clear ht
    have HB9 : Hid (hasB (thrs (ts.map fl)) t = true) := Lib.hid hb9
    clear hb9
    go_enter Try.func20, Try.ntmps20
    have T_0 : Hid (Below w.heap.size w w) := Lib.hid (Below.refl _ _)
    go_wp2_with fail
    (with_reducible refine (I_FlightsValid_q _ _ _ _ ts _ (r_A_0.out) hl HV.out).mono ?_)
    rintro e w1 ⟨rfl, hb⟩
    have r_A_1 := Lib.hid (rdf_b (r_A_0.out) hb)
    have T_1 := Lib.hid (below_trans (T_0.out) hb)
    have z_1 : w.heap.size ≤ w1.heap.size := (by have := hb.size; (try simp at this); omega)
    clear hb r_A_0 T_0
    go_wp2_with fail
    (with_reducible refine (I_isThread _ t).mono ?_)
    rintro e w9 ⟨rfl, rfl⟩
    rw [HT.out]
    go_wp2_with fail
    (with_reducible refine (I_flightThreads _ _ _ _ ts (r_A_1.out) hl).mono ?_)
    rintro e w2 ⟨a2, c2, L, rfl, hL, ho, hb⟩
    have r_A_2 := Lib.hid (rdf_b (r_A_1.out) hb)
    have T_2 := Lib.hid (below_trans (T_1.out) hb)
    have z_2 : w1.heap.size ≤ w2.heap.size := (by have := hb.size; (try simp at this); omega)
    have o_L_2 := Lib.hid (own_base ho (show w1.heap.size ≤ _ by first | omega | (simp; done) | (simp; omega)))
    have lo_L := Lib.hid (own_lo o_L_2.out)
    have hi_L := Lib.hid (own_hi o_L_2.out)
    have HL := Lib.hid hL
    have hLl : L.length ≤ 4294967296 := (by rw [hL, thrs_len]; simpa [tsum] using hl)
    clear hL
    clear hb r_A_1 T_1 ho
    go_wp2_with fail
    (with_reducible refine (slices_Contains _ _ L t (own_rd (o_L_2.out)) hLl).mono ?_)
    rintro e w9 ⟨rfl, rfl⟩
    rw [HL.out, HB9.out]
    go_wp2_with fail
    refine bodyPost_ret (v := .tuple #[.slice none 0 0, .bool false, .bool false]) (by simp [results, Try.results20, go_sem]) rfl ⟨rfl, (T_2.out)⟩
  by_cases h1 : key < 0
  · have HV : Hid (fval (ts.map fl) = true) := Lib.hid hv
    clear hv
    have HT : Hid (thr t = true) := Lib.hid ht
    clear ht
    have HB9 : Hid (hasB (thrs (ts.map fl)) t = false) := Lib.hid (by simpa using hb9)
    clear hb9
    go_enter Try.func20, Try.ntmps20
    have T_0 : Hid (Below w.heap.size w w) := Lib.hid (Below.refl _ _)
    go_wp2_with fail
    (with_reducible refine (I_FlightsValid_q _ _ _ _ ts _ (r_A_0.out) hl HV.out).mono ?_)
    rintro e w1 ⟨rfl, hb⟩
    have r_A_1 := Lib.hid (rdf_b (r_A_0.out) hb)
    have T_1 := Lib.hid (below_trans (T_0.out) hb)
    have z_1 : w.heap.size ≤ w1.heap.size := (by have := hb.size; (try simp at this); omega)
    clear hb r_A_0 T_0
    go_wp2_with fail
    (with_reducible refine (I_isThread _ t).mono ?_)
    rintro e w9 ⟨rfl, rfl⟩
    rw [HT.out]
    go_wp2_with fail
    (with_reducible refine (I_flightThreads _ _ _ _ ts (r_A_1.out) hl).mono ?_)
    rintro e w2 ⟨a2, c2, L, rfl, hL, ho, hb⟩
    have r_A_2 := Lib.hid (rdf_b (r_A_1.out) hb)
    have T_2 := Lib.hid (below_trans (T_1.out) hb)
    have z_2 : w1.heap.size ≤ w2.heap.size := (by have := hb.size; (try simp at this); omega)
    have o_L_2 := Lib.hid (own_base ho (show w1.heap.size ≤ _ by first | omega | (simp; done) | (simp; omega)))
    have lo_L := Lib.hid (own_lo o_L_2.out)
    have hi_L := Lib.hid (own_hi o_L_2.out)
    have HL := Lib.hid hL
    have hLl : L.length ≤ 4294967296 := (by rw [hL, thrs_len]; simpa [tsum] using hl)
    clear hL
    clear hb r_A_1 T_1 ho
    go_wp2_with fail
    (with_reducible refine (slices_Contains _ _ L t (own_rd (o_L_2.out)) hLl).mono ?_)
    rintro e w9 ⟨rfl, rfl⟩
    rw [HL.out, HB9.out]
    go_wp2_with fail
    refine bodyPost_ret (v := .tuple #[.slice none 0 0, .bool false, .bool false]) (by simp [results, Try.results20, go_sem]) rfl ⟨rfl, (T_2.out)⟩
  by_cases h2 : 99 < key
  · have HV : Hid (fval (ts.map fl) = true) := Lib.hid hv
    clear hv
    have HT : Hid (thr t = true) := Lib.hid ht
    clear ht
    have HB9 : Hid (hasB (thrs (ts.map fl)) t = false) := Lib.hid (by simpa using hb9)
    clear hb9
    have h1b : 0 ≤ key := by omega
    clear h1
    go_enter Try.func20, Try.ntmps20
    have T_0 : Hid (Below w.heap.size w w) := Lib.hid (Below.refl _ _)
    go_wp2_with fail
    (with_reducible refine (I_FlightsValid_q _ _ _ _ ts _ (r_A_0.out) hl HV.out).mono ?_)
    rintro e w1 ⟨rfl, hb⟩
    have r_A_1 := Lib.hid (rdf_b (r_A_0.out) hb)
    have T_1 := Lib.hid (below_trans (T_0.out) hb)
    have z_1 : w.heap.size ≤ w1.heap.size := (by have := hb.size; (try simp at this); omega)
    clear hb r_A_0 T_0
    go_wp2_with fail
    (with_reducible refine (I_isThread _ t).mono ?_)
    rintro e w9 ⟨rfl, rfl⟩
    rw [HT.out]
    go_wp2_with fail
    (with_reducible refine (I_flightThreads _ _ _ _ ts (r_A_1.out) hl).mono ?_)
    rintro e w2 ⟨a2, c2, L, rfl, hL, ho, hb⟩
    have r_A_2 := Lib.hid (rdf_b (r_A_1.out) hb)
    have T_2 := Lib.hid (below_trans (T_1.out) hb)
    have z_2 : w1.heap.size ≤ w2.heap.size := (by have := hb.size; (try simp at this); omega)
    have o_L_2 := Lib.hid (own_base ho (show w1.heap.size ≤ _ by first | omega | (simp; done) | (simp; omega)))
    have lo_L := Lib.hid (own_lo o_L_2.out)
    have hi_L := Lib.hid (own_hi o_L_2.out)
    have HL := Lib.hid hL
    have hLl : L.length ≤ 4294967296 := (by rw [hL, thrs_len]; simpa [tsum] using hl)
    clear hL
    clear hb r_A_1 T_1 ho
    go_wp2_with fail
    (with_reducible refine (slices_Contains _ _ L t (own_rd (o_L_2.out)) hLl).mono ?_)
    rintro e w9 ⟨rfl, rfl⟩
    rw [HL.out, HB9.out]
    go_wp2_with fail
    refine bodyPost_ret (v := .tuple #[.slice none 0 0, .bool false, .bool false]) (by simp [results, Try.results20, go_sem]) rfl ⟨rfl, (T_2.out)⟩
  exfalso
  have HV : Hid (fval (ts.map fl) = true) := Lib.hid hv
  clear hv
  have HT : Hid (thr t = true) := Lib.hid ht
  clear ht
  have HB9 : Hid (hasB (thrs (ts.map fl)) t = false) := Lib.hid (by simpa using hb9)
  clear hb9
  have h1b : 0 ≤ key := by omega
  have h2b : key ≤ 99 := by omega
  clear h1 h2
  have h := HNO.out
  rw [joinOk_true HV.out HT.out h1b h2b HB9.out] at h
  cases h
end Go.Proofs.Ytafpnkcdoeicgaa
