/- The law FnSemText: the walk. -/
import Derived.Test.YtcbdpcalmafdiaaDoorFmtSemI
import Derived.Test.YtcbdpcalmafdiaaDoorCodeDoor
import Derived.Deep.RegionHeld3
import Derived.Deep.DrawnRows
import Derived.Deep.RegionLaw
namespace Go.Proofs.YtcbdpcalmafdiaaDoor
open Go.RowKit
attribute [local go_sem ↓] Go.wp_at_zero Go.wp_at_succ
theorem bool_q {P : Program} {f : FuncId} {args : Array Value} {w : World} {x b : Bool} (h : Calls P f args w fun e w' => e = .returned (.bool x) ∧ Below w.heap.size w w') (hb : x = b) :
    Calls P f args w fun e w' => e = .returned (.bool b) ∧ Below w.heap.size w w' := by subst hb; exact h
theorem sem_sym (p q s u : Int) (xs ys : List (Int × Int)) : (decide (s = p) && decide (u = q) && eqP ys xs) = (decide (p = s) && decide (q = u) && eqP xs ys) := by
  unfold eqP; rw [Bool.eq_iff_iff]; simp only [Bool.and_eq_true, decide_eq_true_eq]
  exact ⟨fun ⟨⟨a, b⟩, c⟩ => ⟨⟨a.symm, b.symm⟩, c.symm⟩, fun ⟨⟨a, b⟩, c⟩ => ⟨⟨a.symm, b.symm⟩, c.symm⟩⟩
theorem str_q {P : Program} {f : FuncId} {args : Array Value} {w : World} {x b : ByteArray} (h : Calls P f args w fun e w' => e = .returned (.string x) ∧ Below w.heap.size w w') (hb : x = b) :
    Calls P f args w fun e w' => e = .returned (.string b) ∧ Below w.heap.size w w' := by subst hb; exact h
theorem ByteArray_len (b : ByteArray) : b.toList.length = b.size := by
  rw [ByteArray.toList_eq, Array.length_toList]; rfl
theorem count_take {l : List UInt8} {k : Nat} {c : UInt8} (h : k < l.length) : (l.take (k + 1)).count c = (l.take k).count c + (if l[k] = c then 1 else 0) := by
  rw [List.take_succ_eq_append_getElem h, List.count_append, List.count_singleton]
  by_cases e : l[k] = c <;> simp [e]
theorem byte_at {l : List UInt8} {st : ByteArray} {k : Nat} (h : (⟨l.toArray⟩ : ByteArray) = st) (h1 : k < st.size) (h2 : k < l.length) : st[k] = l[k] := by
  subst h; rfl
theorem dig_ne {n : Int} (h0 : 0 ≤ n) (h9 : n ≤ 9) : dig n ≠ 58 := by
  intro e
  have h := dig_nat h0 h9
  rw [e] at h
  have : ((58 : UInt8).toNat : Int) = 58 := rfl
  omega
set_option maxHeartbeats 4000000 in
set_option maxRecDepth 100000 in
theorem W_FnSemText (w : World) (v : Value) (n : Nat) (hv : RdY w v n) (hm : n ≤ 9223372036854775807) :
    Calls Tryd.prog 6 #[v] w fun e w' => e = .returned (.bool true) ∧ Below w.heap.size w w' := by
  have HV := Lib.hid hv
  obtain ⟨a, cap, rfl, hcap, hnc, hr⟩ := hv
  clear hr hnc
  by_cases hbig : 1048576 < n
  · go_enter Tryd.func6, Tryd.ntmps6
    go_wp2
    go_ret
    exact ⟨rfl, Below.refl _ _⟩
  · go_enter Tryd.func6, Tryd.ntmps6
    have T_0 : Hid (Below w.heap.size w w) := Lib.hid (Below.refl _ _)
    go_wp2_with fail
    (with_reducible refine (S_DrawFormatSem _ _ n HV.out (by omega)).mono ?_)
    rintro e w1 ⟨p, q, xs, a1, c1, rfl, hx, hdx, hb⟩
    have T_1 := Lib.hid (below_trans (T_0.out) hb)
    have z_1 : w.heap.size ≤ w1.heap.size := (by have := hb.size; (try simp at this); omega)
    have r_x_1 := Lib.hid (rdxb_mono hdx (show w.heap.size ≤ _ by first | omega | (simp; done) | (simp; omega)))
    have lr_x := Lib.hid (rdxb_lo r_x_1.out)
    have hr_x := Lib.hid (rdxb_hi r_x_1.out)
    clear hb T_0 hdx
    by_cases hs : sval p q xs = true
    rotate_left
    · have HS : Hid (sval p q xs = false) := Lib.hid (by simpa using hs)
      clear hs
      have HST : Hid ((⟨(ftxt p q xs).toArray⟩ : ByteArray) = ⟨#[]⟩) := Lib.hid (by unfold ftxt; rw [if_neg (by rw [HS.out]; simp)])
      go_wp2_with fail
      (with_reducible refine (str_q (I_FormatSem _ p q _ xs (rdxb_x (rdxb_b (r_x_1.out) (below_alloc _ _))) (by omega)) HST.out).mono ?_)
      rintro e w2 ⟨rfl, hb⟩
      have c_A0_2 := cell_b (p := ⟨w1.heap.size, 0, none⟩) (v := .int .i64 p) (by first | (simp; done) | (simp [World.cell?_alloc_past, World.cell?_alloc_at]; done)) hb
      have c_A1_2 := cell_b (p := ⟨w1.heap.size, 1, none⟩) (v := .int .i64 q) (by first | (simp; done) | (simp [World.cell?_alloc_past, World.cell?_alloc_at]; done)) hb
      have c_A2_2 := cell_b (p := ⟨w1.heap.size, 2, none⟩) (v := .slice a1 xs.length c1) (by first | (simp; done) | (simp [World.cell?_alloc_past, World.cell?_alloc_at]; done)) hb
      have r_x_2 := Lib.hid (rdxb_b (rdxb_b (r_x_1.out) (below_alloc _ _)) hb)
      have T_2 := Lib.hid (below_trans (below_trans (T_1.out) (below_alloc _ _)) hb)
      have z_2 : w1.heap.size + 1 ≤ w2.heap.size := (by have := hb.size; (try simp at this); omega)
      have ac_A0_2 := fun o => cell_b (c_A0_2) (below_alloc _ o)
      have bc_A0_2 := fun o o1 => cell_b (ac_A0_2 o) (below_alloc _ o1)
      have dc_A0_2 := fun o o1 o2 => cell_b (bc_A0_2 o o1) (below_alloc _ o2)
      have ac_A1_2 := fun o => cell_b (c_A1_2) (below_alloc _ o)
      have bc_A1_2 := fun o o1 => cell_b (ac_A1_2 o) (below_alloc _ o1)
      have dc_A1_2 := fun o o1 o2 => cell_b (bc_A1_2 o o1) (below_alloc _ o2)
      have ac_A2_2 := fun o => cell_b (c_A2_2) (below_alloc _ o)
      have bc_A2_2 := fun o o1 => cell_b (ac_A2_2 o) (below_alloc _ o1)
      have dc_A2_2 := fun o o1 o2 => cell_b (bc_A2_2 o o1) (below_alloc _ o2)
      clear hb r_x_1 T_1
      go_wp2_with fail
      (with_reducible refine (str_q (S_FormatSem _ p q _ xs (rdxb_x (r_x_2.out)) (by omega)) HST.out).mono ?_)
      rintro e w3 ⟨rfl, hb⟩
      have c_A0_3 := cell_b (c_A0_2) hb
      have c_A1_3 := cell_b (c_A1_2) hb
      have c_A2_3 := cell_b (c_A2_2) hb
      have r_x_3 := Lib.hid (rdxb_b (r_x_2.out) hb)
      have T_3 := Lib.hid (below_trans (T_2.out) hb)
      have z_3 : w2.heap.size ≤ w3.heap.size := (by have := hb.size; (try simp at this); omega)
      have ac_A0_3 := fun o => cell_b (c_A0_3) (below_alloc _ o)
      have bc_A0_3 := fun o o1 => cell_b (ac_A0_3 o) (below_alloc _ o1)
      have dc_A0_3 := fun o o1 o2 => cell_b (bc_A0_3 o o1) (below_alloc _ o2)
      have ac_A1_3 := fun o => cell_b (c_A1_3) (below_alloc _ o)
      have bc_A1_3 := fun o o1 => cell_b (ac_A1_3 o) (below_alloc _ o1)
      have dc_A1_3 := fun o o1 o2 => cell_b (bc_A1_3 o o1) (below_alloc _ o2)
      have ac_A2_3 := fun o => cell_b (c_A2_3) (below_alloc _ o)
      have bc_A2_3 := fun o o1 => cell_b (ac_A2_3 o) (below_alloc _ o1)
      have dc_A2_3 := fun o o1 o2 => cell_b (bc_A2_3 o o1) (below_alloc _ o2)
      clear hb c_A0_2 c_A1_2 c_A2_2 r_x_2 T_2 ac_A0_2 bc_A0_2 dc_A0_2 ac_A1_2 bc_A1_2 dc_A1_2 ac_A2_2 bc_A2_2 dc_A2_2
      go_wp2_with fail
      (with_reducible refine (str_q (S_FormatSem _ p q _ xs (rdxb_x (r_x_3.out)) (by omega)) HST.out).mono ?_)
      rintro e w4 ⟨rfl, hb⟩
      have c_A0_4 := cell_b (c_A0_3) hb
      have c_A1_4 := cell_b (c_A1_3) hb
      have c_A2_4 := cell_b (c_A2_3) hb
      have r_x_4 := Lib.hid (rdxb_b (r_x_3.out) hb)
      have T_4 := Lib.hid (below_trans (T_3.out) hb)
      have z_4 : w3.heap.size ≤ w4.heap.size := (by have := hb.size; (try simp at this); omega)
      have ac_A0_4 := fun o => cell_b (c_A0_4) (below_alloc _ o)
      have bc_A0_4 := fun o o1 => cell_b (ac_A0_4 o) (below_alloc _ o1)
      have dc_A0_4 := fun o o1 o2 => cell_b (bc_A0_4 o o1) (below_alloc _ o2)
      have ac_A1_4 := fun o => cell_b (c_A1_4) (below_alloc _ o)
      have bc_A1_4 := fun o o1 => cell_b (ac_A1_4 o) (below_alloc _ o1)
      have dc_A1_4 := fun o o1 o2 => cell_b (bc_A1_4 o o1) (below_alloc _ o2)
      have ac_A2_4 := fun o => cell_b (c_A2_4) (below_alloc _ o)
      have bc_A2_4 := fun o o1 => cell_b (ac_A2_4 o) (below_alloc _ o1)
      have dc_A2_4 := fun o o1 o2 => cell_b (bc_A2_4 o o1) (below_alloc _ o2)
      clear hb c_A0_3 c_A1_3 c_A2_3 r_x_3 T_3 ac_A0_3 bc_A0_3 dc_A0_3 ac_A1_3 bc_A1_3 dc_A1_3 ac_A2_3 bc_A2_3 dc_A2_3
      go_wp2_with fail
      go_ret
      exact ⟨rfl, (T_4.out)⟩
    have HS := Lib.hid hs
    have hln : (stxt p q xs).length = 3 + 4 * xs.length := stxt_len
    have hft : ftxt p q xs = stxt p q xs := by unfold ftxt; rw [if_pos hs]
    obtain ⟨e1, e2, e3, e4, _, _⟩ := sval_digits hs
    obtain ⟨st, hst⟩ : ∃ st : ByteArray, ⟨(stxt p q xs).toArray⟩ = st := ⟨_, rfl⟩
    have HST : Hid ((⟨(ftxt p q xs).toArray⟩ : ByteArray) = st) := Lib.hid (by rw [hft]; exact hst)
    have hsz : st.size = 3 + 4 * xs.length := by rw [← hst, ← hln]; simp [ByteArray.size]
    have hne : (st.toList == []) = false := by rw [beq_eq_false_iff_ne]; intro e; have h : st.size = 0 := (by have h := congrArg List.length e; rwa [ByteArray_len] at h); omega
    have HSTL := Lib.hid hst
    have HSZ := Lib.hid hsz
    clear hs hft hln hst hsz
    go_wp2_with fail
    (with_reducible refine (str_q (I_FormatSem _ p q _ xs (rdxb_x (rdxb_b (r_x_1.out) (below_alloc _ _))) (by omega)) HST.out).mono ?_)
    rintro e w2 ⟨rfl, hb⟩
    have c_A0_2 := cell_b (p := ⟨w1.heap.size, 0, none⟩) (v := .int .i64 p) (by first | (simp; done) | (simp [World.cell?_alloc_past, World.cell?_alloc_at]; done)) hb
    have c_A1_2 := cell_b (p := ⟨w1.heap.size, 1, none⟩) (v := .int .i64 q) (by first | (simp; done) | (simp [World.cell?_alloc_past, World.cell?_alloc_at]; done)) hb
    have c_A2_2 := cell_b (p := ⟨w1.heap.size, 2, none⟩) (v := .slice a1 xs.length c1) (by first | (simp; done) | (simp [World.cell?_alloc_past, World.cell?_alloc_at]; done)) hb
    have r_x_2 := Lib.hid (rdxb_b (rdxb_b (r_x_1.out) (below_alloc _ _)) hb)
    have T_2 := Lib.hid (below_trans (below_trans (T_1.out) (below_alloc _ _)) hb)
    have z_2 : w1.heap.size + 1 ≤ w2.heap.size := (by have := hb.size; (try simp at this); omega)
    have ac_A0_2 := fun o => cell_b (c_A0_2) (below_alloc _ o)
    have bc_A0_2 := fun o o1 => cell_b (ac_A0_2 o) (below_alloc _ o1)
    have dc_A0_2 := fun o o1 o2 => cell_b (bc_A0_2 o o1) (below_alloc _ o2)
    have ac_A1_2 := fun o => cell_b (c_A1_2) (below_alloc _ o)
    have bc_A1_2 := fun o o1 => cell_b (ac_A1_2 o) (below_alloc _ o1)
    have dc_A1_2 := fun o o1 o2 => cell_b (bc_A1_2 o o1) (below_alloc _ o2)
    have ac_A2_2 := fun o => cell_b (c_A2_2) (below_alloc _ o)
    have bc_A2_2 := fun o o1 => cell_b (ac_A2_2 o) (below_alloc _ o1)
    have dc_A2_2 := fun o o1 o2 => cell_b (bc_A2_2 o o1) (below_alloc _ o2)
    clear hb r_x_1 T_1
    go_wp2_with fail
    (with_reducible refine (str_q (S_FormatSem _ p q _ xs (rdxb_x (r_x_2.out)) (by omega)) HST.out).mono ?_)
    rintro e w3 ⟨rfl, hb⟩
    have c_A0_3 := cell_b (c_A0_2) hb
    have c_A1_3 := cell_b (c_A1_2) hb
    have c_A2_3 := cell_b (c_A2_2) hb
    have r_x_3 := Lib.hid (rdxb_b (r_x_2.out) hb)
    have T_3 := Lib.hid (below_trans (T_2.out) hb)
    have z_3 : w2.heap.size ≤ w3.heap.size := (by have := hb.size; (try simp at this); omega)
    have ac_A0_3 := fun o => cell_b (c_A0_3) (below_alloc _ o)
    have bc_A0_3 := fun o o1 => cell_b (ac_A0_3 o) (below_alloc _ o1)
    have dc_A0_3 := fun o o1 o2 => cell_b (bc_A0_3 o o1) (below_alloc _ o2)
    have ac_A1_3 := fun o => cell_b (c_A1_3) (below_alloc _ o)
    have bc_A1_3 := fun o o1 => cell_b (ac_A1_3 o) (below_alloc _ o1)
    have dc_A1_3 := fun o o1 o2 => cell_b (bc_A1_3 o o1) (below_alloc _ o2)
    have ac_A2_3 := fun o => cell_b (c_A2_3) (below_alloc _ o)
    have bc_A2_3 := fun o o1 => cell_b (ac_A2_3 o) (below_alloc _ o1)
    have dc_A2_3 := fun o o1 o2 => cell_b (bc_A2_3 o o1) (below_alloc _ o2)
    clear hb c_A0_2 c_A1_2 c_A2_2 r_x_2 T_2 ac_A0_2 bc_A0_2 dc_A0_2 ac_A1_2 bc_A1_2 dc_A1_2 ac_A2_2 bc_A2_2 dc_A2_2
    have hsz := HSZ.out
    have i0 : 0 < st.size := by omega
    have i1 : 1 < st.size := by omega
    have i2 : 2 < st.size := by omega
    have j1 : (1 : Int) < (st.size : Int) := by omega
    have j2 : (2 : Int) < (st.size : Int) := by omega
    have j0 : (0 : Int) < (st.size : Int) := by omega
    have b0 : (st[0].toNat : Int) = 48 + p := by rw [byte_at HSTL.out i0 (by rw [stxt_len]; omega)]; exact dig_nat e1 e2
    have b1 : (st[1].toNat : Int) = 47 := by rw [byte_at HSTL.out i1 (by rw [stxt_len]; omega)]; rfl
    have b2 : (st[2].toNat : Int) = 48 + q := by rw [byte_at HSTL.out i2 (by rw [stxt_len]; omega)]; exact dig_nat (by omega) e4
    have k1 : IntKind.u8.wrap (48 + p - 48) = p := by rw [show (48 + p - 48 : Int) = p by omega]; exact IntWalk.u8_in _ (by omega)
    have k2 : IntKind.u8.wrap (48 + q - 48) = q := by rw [show (48 + q - 48 : Int) = q by omega]; exact IntWalk.u8_in _ (by omega)
    have k3 : IntKind.i64.wrap (4 * (xs.length : Int)) = 4 * (xs.length : Int) := IntWalk.i64_in _ (by omega)
    have k4 : IntKind.i64.wrap (3 + 4 * (xs.length : Int)) = 3 + 4 * (xs.length : Int) := IntWalk.i64_in _ (by omega)
    have hsi : (st.size : Int) = 3 + 4 * (xs.length : Int) := by omega
    clear hsz
    go_wp2_with fail
    go_quiet (fail)
    go_wp2_with fail
    go_ret
    exact ⟨rfl, below_trans (T_3.out) (drewN_below _ _)⟩
end Go.Proofs.YtcbdpcalmafdiaaDoor
