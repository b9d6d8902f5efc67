/- The law FnFormatSem: the walk. -/
import Derived.Test.YtcbdpcalmafdiaaDoorFmtSemI
import Derived.Test.YtcbdpcalmafdiaaDoorCodeDoor
import Derived.Deep.RegionHeld3
import Derived.Deep.DrawnRows
import Derived.Deep.RegionLaw
namespace Go.Proofs.YtcbdpcalmafdiaaDoor
open Go.RowKit
attribute [local go_sem ↓] Go.wp_at_zero Go.wp_at_succ
theorem bool_q {P : Program} {f : FuncId} {args : Array Value} {w : World} {x b : Bool} (h : Calls P f args w fun e w' => e = .returned (.bool x) ∧ Below w.heap.size w w') (hb : x = b) :
    Calls P f args w fun e w' => e = .returned (.bool b) ∧ Below w.heap.size w w' := by subst hb; exact h
theorem sem_sym (p q s u : Int) (xs ys : List (Int × Int)) : (decide (s = p) && decide (u = q) && eqP ys xs) = (decide (p = s) && decide (q = u) && eqP xs ys) := by
  unfold eqP; rw [Bool.eq_iff_iff]; simp only [Bool.and_eq_true, decide_eq_true_eq]
  exact ⟨fun ⟨⟨a, b⟩, c⟩ => ⟨⟨a.symm, b.symm⟩, c.symm⟩, fun ⟨⟨a, b⟩, c⟩ => ⟨⟨a.symm, b.symm⟩, c.symm⟩⟩
theorem str_q {P : Program} {f : FuncId} {args : Array Value} {w : World} {x b : ByteArray} (h : Calls P f args w fun e w' => e = .returned (.string x) ∧ Below w.heap.size w w') (hb : x = b) :
    Calls P f args w fun e w' => e = .returned (.string b) ∧ Below w.heap.size w w' := by subst hb; exact h
theorem ByteArray_len (b : ByteArray) : b.toList.length = b.size := by
  rw [ByteArray.toList_eq, Array.length_toList]; rfl
theorem count_take {l : List UInt8} {k : Nat} {c : UInt8} (h : k < l.length) : (l.take (k + 1)).count c = (l.take k).count c + (if l[k] = c then 1 else 0) := by
  rw [List.take_succ_eq_append_getElem h, List.count_append, List.count_singleton]
  by_cases e : l[k] = c <;> simp [e]
theorem byte_at {l : List UInt8} {st : ByteArray} {k : Nat} (h : (⟨l.toArray⟩ : ByteArray) = st) (h1 : k < st.size) (h2 : k < l.length) : st[k] = l[k] := by
  subst h; rfl
theorem dig_ne {n : Int} (h0 : 0 ≤ n) (h9 : n ≤ 9) : dig n ≠ 58 := by
  intro e
  have h := dig_nat h0 h9
  rw [e] at h
  have : ((58 : UInt8).toNat : Int) = 58 := rfl
  omega
theorem cnt_stxt {f l : Int} {ws : List (Int × Int)} (h : sval f l ws = true) : (stxt f l ws).count 58 = ws.length := by
  obtain ⟨h1, h2, h3, h4, _, h5⟩ := sval_digits h
  have hw : ∀ ws : List (Int × Int), (∀ x ∈ ws, 0 ≤ x.1 ∧ x.1 ≤ 5 ∧ 1 ≤ x.2 ∧ x.2 ≤ 9) → (ws.flatMap wtxt).count 58 = ws.length := by
    intro ws
    induction ws with
    | nil => intro _; rfl
    | cons x xs ih =>
      intro hx
      obtain ⟨a1, a2, a3, a4⟩ := hx x List.mem_cons_self
      have e1 := dig_ne a1 (by omega)
      have e2 := dig_ne (n := x.2) (by omega) a4
      rw [List.flatMap_cons, List.count_append, ih (fun y hy => hx y (List.mem_cons_of_mem _ hy))]
      unfold wtxt
      rw [List.count_cons, List.count_cons, List.count_cons, List.count_cons, List.count_nil]
      simp [e1, e2]
      omega
  unfold stxt
  rw [List.count_cons, List.count_cons, List.count_cons, hw ws h5]
  simp [dig_ne h1 h2, dig_ne (n := l) (by omega) h4]
set_option maxHeartbeats 4000000 in
set_option maxRecDepth 100000 in
theorem W_FnFormatSem (w : World) (v : Value) (n : Nat) (hv : RdY w v n) (hm : n ≤ 9223372036854775807) :
    Calls Tryd.prog 5 #[v] w fun e w' => e = .returned (.bool true) ∧ Below w.heap.size w w' := by
  have HV := Lib.hid hv
  obtain ⟨a, cap, rfl, hcap, hnc, hr⟩ := hv
  clear hr hnc
  by_cases hbig : 1048576 < n
  · go_enter Tryd.func5, Tryd.ntmps5
    go_wp2
    go_ret
    exact ⟨rfl, Below.refl _ _⟩
  · go_enter Tryd.func5, Tryd.ntmps5
    have T_0 : Hid (Below w.heap.size w w) := Lib.hid (Below.refl _ _)
    go_wp2_with fail
    (with_reducible refine (S_DrawFormatSem _ _ n HV.out (by omega)).mono ?_)
    rintro e w1 ⟨p, q, xs, a1, c1, rfl, hx, hdx, hb⟩
    have T_1 := Lib.hid (below_trans (T_0.out) hb)
    have z_1 : w.heap.size ≤ w1.heap.size := (by have := hb.size; (try simp at this); omega)
    have r_x_1 := Lib.hid (rdxb_mono hdx (show w.heap.size ≤ _ by first | omega | (simp; done) | (simp; omega)))
    have lr_x := Lib.hid (rdxb_lo r_x_1.out)
    have hr_x := Lib.hid (rdxb_hi r_x_1.out)
    clear hb T_0 hdx
    by_cases hs : sval p q xs = true
    rotate_left
    · have HS : Hid (sval p q xs = false) := Lib.hid (by simpa using hs)
      clear hs
      have HST : Hid ((⟨(ftxt p q xs).toArray⟩ : ByteArray) = ⟨#[]⟩) := Lib.hid (by unfold ftxt; rw [if_neg (by rw [HS.out]; simp)])
      go_wp2_with fail
      (with_reducible refine (str_q (I_FormatSem _ p q _ xs (rdxb_x (rdxb_b (r_x_1.out) (below_alloc _ _))) (by omega)) HST.out).mono ?_)
      rintro e w2 ⟨rfl, hb⟩
      have c_A0_2 := cell_b (p := ⟨w1.heap.size, 0, none⟩) (v := .int .i64 p) (by first | (simp; done) | (simp [World.cell?_alloc_past, World.cell?_alloc_at]; done)) hb
      have c_A1_2 := cell_b (p := ⟨w1.heap.size, 1, none⟩) (v := .int .i64 q) (by first | (simp; done) | (simp [World.cell?_alloc_past, World.cell?_alloc_at]; done)) hb
      have c_A2_2 := cell_b (p := ⟨w1.heap.size, 2, none⟩) (v := .slice a1 xs.length c1) (by first | (simp; done) | (simp [World.cell?_alloc_past, World.cell?_alloc_at]; done)) hb
      have r_x_2 := Lib.hid (rdxb_b (rdxb_b (r_x_1.out) (below_alloc _ _)) hb)
      have T_2 := Lib.hid (below_trans (below_trans (T_1.out) (below_alloc _ _)) hb)
      have z_2 : w1.heap.size + 1 ≤ w2.heap.size := (by have := hb.size; (try simp at this); omega)
      have ac_A0_2 := fun o => cell_b (c_A0_2) (below_alloc _ o)
      have bc_A0_2 := fun o o1 => cell_b (ac_A0_2 o) (below_alloc _ o1)
      have dc_A0_2 := fun o o1 o2 => cell_b (bc_A0_2 o o1) (below_alloc _ o2)
      have ac_A1_2 := fun o => cell_b (c_A1_2) (below_alloc _ o)
      have bc_A1_2 := fun o o1 => cell_b (ac_A1_2 o) (below_alloc _ o1)
      have dc_A1_2 := fun o o1 o2 => cell_b (bc_A1_2 o o1) (below_alloc _ o2)
      have ac_A2_2 := fun o => cell_b (c_A2_2) (below_alloc _ o)
      have bc_A2_2 := fun o o1 => cell_b (ac_A2_2 o) (below_alloc _ o1)
      have dc_A2_2 := fun o o1 o2 => cell_b (bc_A2_2 o o1) (below_alloc _ o2)
      clear hb r_x_1 T_1
      go_wp2_with fail
      have hp : ∀ ω1 ω2, (fun w' => w'.cell? ⟨w1.heap.size, 0, none⟩ = some (.int .i64 p) ∧ w'.cell? ⟨w1.heap.size, 1, none⟩ = some (.int .i64 q) ∧ w'.cell? ⟨w1.heap.size, 2, none⟩ = some (.slice a1 xs.length c1) ∧ RdWB w' (w.heap.size) (.slice a1 xs.length c1) (xs)) ω1 → Below ω1.heap.size ω1 ω2 → (fun w' => w'.cell? ⟨w1.heap.size, 0, none⟩ = some (.int .i64 p) ∧ w'.cell? ⟨w1.heap.size, 1, none⟩ = some (.int .i64 q) ∧ w'.cell? ⟨w1.heap.size, 2, none⟩ = some (.slice a1 xs.length c1) ∧ RdWB w' (w.heap.size) (.slice a1 xs.length c1) (xs)) ω2 := fun _ _ h hb => ⟨cell_b h.1 hb, cell_b h.2.1 hb, cell_b h.2.2.1 hb, rdxb_b h.2.2.2 hb⟩
      have HP := Lib.hid hp
      clear hp
      refine wp_region_calm (fun w' => w'.cell? ⟨w1.heap.size, 0, none⟩ = some (.int .i64 p) ∧ w'.cell? ⟨w1.heap.size, 1, none⟩ = some (.int .i64 q) ∧ w'.cell? ⟨w1.heap.size, 2, none⟩ = some (.slice a1 xs.length c1) ∧ RdWB w' (w.heap.size) (.slice a1 xs.length c1) (xs)) (by kernel_rfl) (by kernel_rfl) ⟨(c_A0_2), (c_A1_2), (c_A2_2), (r_x_2.out)⟩ HP.out ?_
      intro hne hs
      (try dsimp only at hs)
      have q_A0 := fun n => (hs n).1
      have q_A1 := fun n => (hs n).2.1
      have q_A2 := fun n => (hs n).2.2.1
      have Q_x := Lib.hid (fun n => (hs n).2.2.2)
      clear hs
      repeat (go_big_quiet_step (first | (go_at_call 8; with_reducible exact calm_of HP.out (str_q (S_FormatSem _ p q _ xs (rdxb_x (Q_x.out _)) (by omega)) HST.out)) | (go_at_call 16; with_reducible exact calm_of HP.out (bool_q (I_SemValid _ p q _ xs (rdxb_x (Q_x.out _)) (by omega)) HS.out)) | (go_at_call 17; with_reducible exact calm_of HP.out (bool_q (S_SemValid _ p q _ xs (rdxb_x (Q_x.out _)) (by omega)) HS.out))))
      refine wpQuiet_nil ?_
      rintro _ ⟨n9, rfl⟩
      have h2 := n9.holds.2.2.1
      have hb9 := n9.below
      go_wp2
      refine wp_loop_rounds 1 ?_
      rw [rounds_succ]
      go_wp2
      go_ret
      exact ⟨rfl, below_trans (T_2.out) hb9⟩
    have HS := Lib.hid hs
    have hcn := cnt_stxt hs
    have hln : (stxt p q xs).length = 3 + 4 * xs.length := stxt_len
    have hft : ftxt p q xs = stxt p q xs := by unfold ftxt; rw [if_pos hs]
    obtain ⟨l, hl⟩ : ∃ l, stxt p q xs = l := ⟨_, rfl⟩
    rw [hl] at hcn hln hft
    have HCN := Lib.hid hcn
    have HLN := Lib.hid hln
    obtain ⟨st, hst⟩ : ∃ st : ByteArray, ⟨l.toArray⟩ = st := ⟨_, rfl⟩
    have HST : Hid ((⟨(ftxt p q xs).toArray⟩ : ByteArray) = st) := Lib.hid (by rw [hft]; exact hst)
    have hsz : st.size = l.length := by rw [← hst]; simp [ByteArray.size]
    have hne : (st.toList == []) = false := by rw [beq_eq_false_iff_ne]; intro e; have h : l.length = 0 := (by have h := congrArg List.length e; rwa [ByteArray_len, hsz] at h); omega
    have HSTL := Lib.hid hst
    clear hs hl hft hcn hln hst
    go_wp2_with fail
    (with_reducible refine (str_q (I_FormatSem _ p q _ xs (rdxb_x (rdxb_b (r_x_1.out) (below_alloc _ _))) (by omega)) HST.out).mono ?_)
    rintro e w2 ⟨rfl, hb⟩
    have c_A0_2 := cell_b (p := ⟨w1.heap.size, 0, none⟩) (v := .int .i64 p) (by first | (simp; done) | (simp [World.cell?_alloc_past, World.cell?_alloc_at]; done)) hb
    have c_A1_2 := cell_b (p := ⟨w1.heap.size, 1, none⟩) (v := .int .i64 q) (by first | (simp; done) | (simp [World.cell?_alloc_past, World.cell?_alloc_at]; done)) hb
    have c_A2_2 := cell_b (p := ⟨w1.heap.size, 2, none⟩) (v := .slice a1 xs.length c1) (by first | (simp; done) | (simp [World.cell?_alloc_past, World.cell?_alloc_at]; done)) hb
    have r_x_2 := Lib.hid (rdxb_b (rdxb_b (r_x_1.out) (below_alloc _ _)) hb)
    have T_2 := Lib.hid (below_trans (below_trans (T_1.out) (below_alloc _ _)) hb)
    have z_2 : w1.heap.size + 1 ≤ w2.heap.size := (by have := hb.size; (try simp at this); omega)
    have ac_A0_2 := fun o => cell_b (c_A0_2) (below_alloc _ o)
    have bc_A0_2 := fun o o1 => cell_b (ac_A0_2 o) (below_alloc _ o1)
    have dc_A0_2 := fun o o1 o2 => cell_b (bc_A0_2 o o1) (below_alloc _ o2)
    have ac_A1_2 := fun o => cell_b (c_A1_2) (below_alloc _ o)
    have bc_A1_2 := fun o o1 => cell_b (ac_A1_2 o) (below_alloc _ o1)
    have dc_A1_2 := fun o o1 o2 => cell_b (bc_A1_2 o o1) (below_alloc _ o2)
    have ac_A2_2 := fun o => cell_b (c_A2_2) (below_alloc _ o)
    have bc_A2_2 := fun o o1 => cell_b (ac_A2_2 o) (below_alloc _ o1)
    have dc_A2_2 := fun o o1 o2 => cell_b (bc_A2_2 o o1) (below_alloc _ o2)
    clear hb r_x_1 T_1
    go_wp2_with fail
    have hp : ∀ ω1 ω2, (fun w' => w'.cell? ⟨w1.heap.size, 0, none⟩ = some (.int .i64 p) ∧ w'.cell? ⟨w1.heap.size, 1, none⟩ = some (.int .i64 q) ∧ w'.cell? ⟨w1.heap.size, 2, none⟩ = some (.slice a1 xs.length c1) ∧ RdWB w' (w.heap.size) (.slice a1 xs.length c1) (xs)) ω1 → Below ω1.heap.size ω1 ω2 → (fun w' => w'.cell? ⟨w1.heap.size, 0, none⟩ = some (.int .i64 p) ∧ w'.cell? ⟨w1.heap.size, 1, none⟩ = some (.int .i64 q) ∧ w'.cell? ⟨w1.heap.size, 2, none⟩ = some (.slice a1 xs.length c1) ∧ RdWB w' (w.heap.size) (.slice a1 xs.length c1) (xs)) ω2 := fun _ _ h hb => ⟨cell_b h.1 hb, cell_b h.2.1 hb, cell_b h.2.2.1 hb, rdxb_b h.2.2.2 hb⟩
    have HP := Lib.hid hp
    clear hp
    refine wp_region_calm (fun w' => w'.cell? ⟨w1.heap.size, 0, none⟩ = some (.int .i64 p) ∧ w'.cell? ⟨w1.heap.size, 1, none⟩ = some (.int .i64 q) ∧ w'.cell? ⟨w1.heap.size, 2, none⟩ = some (.slice a1 xs.length c1) ∧ RdWB w' (w.heap.size) (.slice a1 xs.length c1) (xs)) (by kernel_rfl) (by kernel_rfl) ⟨(c_A0_2), (c_A1_2), (c_A2_2), (r_x_2.out)⟩ HP.out ?_
    intro hne hs
    (try dsimp only at hs)
    have q_A0 := fun n => (hs n).1
    have q_A1 := fun n => (hs n).2.1
    have q_A2 := fun n => (hs n).2.2.1
    have Q_x := Lib.hid (fun n => (hs n).2.2.2)
    clear hs
    repeat (go_big_quiet_step (first | (go_at_call 8; with_reducible exact calm_of HP.out (str_q (S_FormatSem _ p q _ xs (rdxb_x (Q_x.out _)) (by omega)) HST.out)) | (go_at_call 16; with_reducible exact calm_of HP.out (bool_q (I_SemValid _ p q _ xs (rdxb_x (Q_x.out _)) (by omega)) HS.out)) | (go_at_call 17; with_reducible exact calm_of HP.out (bool_q (S_SemValid _ p q _ xs (rdxb_x (Q_x.out _)) (by omega)) HS.out))))
    refine wpQuiet_nil ?_
    rintro _ ⟨n9, rfl⟩
    have h2 := n9.holds.2.2.1
    have hb9 := n9.below
    (try dsimp only at h2)
    obtain ⟨w9, hw9⟩ : ∃ w9, n9.at_ = w9 := ⟨_, rfl⟩
    rw [hw9] at h2 hb9 ⊢
    have HB9 := Lib.hid hb9
    have H2 := Lib.hid h2
    skip
    have hll : l.length ≤ 100 := by have := HLN.out; omega
    go_wp2
    go_loopw [5, 6] (fun vn vi wr => ∃ k : Nat, k ≤ l.length ∧ vi = .int .i64 (k : Int) ∧ vn = .int .i64 (((l.take k).count 58 : Nat) : Int) ∧ wr = w9) (fun _ i _ => l.length - (intOf i).toNat)
    case atStart => exact ⟨0, Nat.zero_le _, rfl, by simp, rfl⟩
    case round =>
      obtain ⟨k, hk, rfl, rfl, rfl⟩ := hrel
      obtain ⟨c, hc⟩ : ∃ c, (l.take k).count 58 = c := ⟨_, rfl⟩
      rw [hc]
      have HC := Lib.hid hc
      clear hc
      by_cases hlt : k < l.length
      · have hk0 : (0 : Int) ≤ (k : Int) := by omega
        have hk1 : (k : Int) < (st.size : Int) := by omega
        have hk2 : k < st.size := by omega
        have hct := count_take (c := 58) hlt
        rw [HC.out] at hct
        have HCT := Lib.hid hct
        clear hct
        have hel : st[k] = l[k] := byte_at HSTL.out hk2 hlt
        have hcl : c ≤ k := by rw [← HC.out]; exact Nat.le_trans List.count_le_length (by simp; omega)
        by_cases hb : l[k] = 58
        · have h7 : ((st[k].toNat : Int) == 58) = true := by rw [hel, hb]; rfl
          rw [if_pos hb] at HCT
          have y1 : IntKind.i64.wrap ((c : Int) + 1) = (c : Int) + 1 := IntWalk.i64_in _ (by omega)
          clear hel hb
          go_wp2
          go_roundw
          case rel => exact ⟨k + 1, by omega, by go_num, by rw [HCT.out]; congr 1, by first | rfl | trivial⟩
          case measure => simp [intOf]; omega
        · have h7 : ((st[k].toNat : Int) == 58) = false := by
            rw [hel, beq_eq_false_iff_ne]; intro e; apply hb; apply UInt8.toNat_inj.1; show l[k].toNat = 58; omega
          rw [if_neg hb, Nat.add_zero c] at HCT
          clear hel hb
          go_wp2
          go_roundw
          case rel => exact ⟨k + 1, by omega, by go_num, by rw [HCT.out], by first | rfl | trivial⟩
          case measure => simp [intOf]; omega
      · obtain rfl : k = l.length := by omega
        have hcx : c = xs.length := by rw [← HC.out, List.take_length]; exact HCN.out
        subst hcx
        go_wp2
        go_ret
        exact ⟨rfl, below_trans (T_2.out) HB9.out⟩
end Go.Proofs.YtcbdpcalmafdiaaDoor
