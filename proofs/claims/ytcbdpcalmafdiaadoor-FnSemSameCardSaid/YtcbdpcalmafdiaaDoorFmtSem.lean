/- The text of a semaphore: spec.FormatSem. -/
import Derived.Test.YtcbdpcalmafdiaaDoorSemValid
import Derived.Deep.QuietTactic
import Derived.BigQuiet
import Derived.Laws.IdiomStrings
import Derived.Laws.Concat
namespace Go.Proofs.YtcbdpcalmafdiaaDoor
open Go.RowKit

/-- A digit. -/
def dig (n : Int) : UInt8 := UInt8.ofNat (48 + n.toNat)
/-- A waiter's text. -/
def wtxt (x : Int × Int) : List UInt8 := [32, dig x.1, 58, dig x.2]
/-- A semaphore's text. -/
def stxt (f l : Int) (ws : List (Int × Int)) : List UInt8 := dig f :: 47 :: dig l :: ws.flatMap wtxt
/-- What FormatSem answers. -/
def ftxt (f l : Int) (ws : List (Int × Int)) : List UInt8 := if sval f l ws = true then stxt f l ws else []

theorem dig_nat {n : Int} (h0 : 0 ≤ n) (h9 : n ≤ 9) : ((dig n).toNat : Int) = 48 + n := by
  unfold dig
  rw [UInt8.toNat_ofNat']
  omega
theorem str_add (a b : List UInt8) : (⟨a.toArray⟩ : ByteArray) ++ ⟨b.toArray⟩ = ⟨(a ++ b).toArray⟩ := by
  apply ByteArray.ext; simp
set_option maxHeartbeats 1000000 in
set_option maxRecDepth 100000 in
theorem S_l13Dec (w : World) (n : Int) (h0 : 0 ≤ n) (h9 : n ≤ 9) : Calls Tryd.prog 19 #[.int .i64 n] w fun e w' => e = .returned (.string ⟨#[dig n]⟩) ∧ Below w.heap.size w w' := by
  have h1 : ¬ n < -9223372036854775807 := by omega
  have h2 : ¬ n < 0 := by omega
  have h3 : ¬ 9 < n := by omega
  have hcv : (convert 33 9 (.slice (some ⟨w.heap.size, 0, none⟩) 1 1)).run Tryd.prog (w.alloc (.cells #[.int .u8 (48 + n)] 5)) = .ok (.string ⟨#[dig n]⟩) (w.alloc (.cells #[.int .u8 (48 + n)] 5)) :=
    run_convert_bytes_back _ _ _ 5 _ 1 [dig n] Tryd.underlying33 Tryd.underlying5 Tryd.underlying9 (fun j hj => by
      obtain rfl : j = 0 := by simp at hj; omega
      simp [Addr.add_lit, dig_nat h0 h9])
  go_enter Tryd.func19, Tryd.ntmps19
  go_wp2
  refine wp_loop_rounds 1 ?_
  rw [rounds_succ]
  go_wp2
  go_ret
  exact ⟨by rw [show (⟨#[dig n]⟩ : ByteArray) ++ ⟨#[]⟩ = ⟨#[dig n]⟩ from str_add [dig n] []]; rfl, below_alloc _ _⟩
theorem sval_digits {f l : Int} {ws : List (Int × Int)} (h : sval f l ws = true) : 0 ≤ f ∧ f ≤ 9 ∧ 1 ≤ l ∧ l ≤ 9 ∧ ws.length ≤ 6 ∧ ∀ x ∈ ws, 0 ≤ x.1 ∧ x.1 ≤ 5 ∧ 1 ≤ x.2 ∧ x.2 ≤ 9 := by
  unfold sval at h
  simp only [Bool.and_eq_true] at h
  obtain ⟨⟨⟨h1, h2⟩, h3⟩, _⟩ := h
  obtain ⟨a1, a2, a3, a4, a5⟩ := shead_true h1
  refine ⟨a3, by omega, a1, a2, a5, fun x hx => ?_⟩
  have h4 := (dist_iff.1 h2).1 x.1 (List.mem_map.2 ⟨x, hx, rfl⟩)
  unfold cnts at h3; rw [List.all_eq_true] at h3
  have h5 := h3 x hx
  simp [thr] at h4 h5
  omega
theorem stxt_snoc {f l : Int} {ws : List (Int × Int)} {k : Nat} (h : k < ws.length) : stxt f l (ws.take (k + 1)) = stxt f l (ws.take k) ++ [32] ++ [dig ws[k].1] ++ [58] ++ [dig ws[k].2] := by
  unfold stxt; rw [List.take_succ_eq_append_getElem h, List.flatMap_append]; simp [wtxt]
theorem stxt_len {f l : Int} {ws : List (Int × Int)} : (stxt f l ws).length = 3 + 4 * ws.length := by
  unfold stxt
  simp only [List.length_cons]
  induction ws with
  | nil => rfl
  | cons x xs ih => simp [wtxt] at ih ⊢; omega
/-- A waiter's text put behind a text, piece by piece. -/
theorem cat4 (P : Program) (T : List UInt8) (p q : Int) (h : T.length ≤ 1000) : ∃ b1 b2 b3 b4 : ByteArray, (∀ w, (Op.stringOp .add ⟨T.toArray⟩ ⟨#[32]⟩).run P w = .ok (.string b1) w) ∧ (∀ w, (Op.stringOp .add b1 ⟨#[dig p]⟩).run P w = .ok (.string b2) w) ∧
    (∀ w, (Op.stringOp .add b2 ⟨#[58]⟩).run P w = .ok (.string b3) w) ∧ (∀ w, (Op.stringOp .add b3 ⟨#[dig q]⟩).run P w = .ok (.string b4) w) ∧ b4 = ⟨(T ++ [32] ++ [dig p] ++ [58] ++ [dig q]).toArray⟩ :=
  ⟨_, _, _, _, fun w => run_string_add_lists w T [32] (by omega) (by decide), fun w => run_string_add_lists w _ [dig p] (by simp; omega) (by simp), fun w => run_string_add_lists w _ [58] (by simp; omega) (by decide), fun w => run_string_add_lists w _ [dig q] (by simp; omega) (by simp), rfl⟩
set_option maxHeartbeats 4000000 in
set_option maxRecDepth 100000 in
theorem S_FormatSem (w : World) (f l : Int) (v : Value) (ws : List (Int × Int)) (hr : RdW w v ws) (hl : ws.length ≤ 4294967296) :
    Calls Tryd.prog 8 #[.agg #[.int .i64 f, .int .i64 l, v]] w fun e w' => e = .returned (.string ⟨(ftxt f l ws).toArray⟩) ∧ Below w.heap.size w w' := by
  have HR := Lib.hid hr
  obtain ⟨a, cap, rfl, hcap, hnc, hc0⟩ := rdw_cells hr
  clear hnc hr hc0
  by_cases hv : sval f l ws = true
  rotate_left
  · have hv2 : sval f l ws = false := by simpa using hv
    have HV := Lib.hid hv2
    clear hv hv2
    go_enter Tryd.func8, Tryd.ntmps8
    go_wp2_with fail
    (with_reducible refine (S_SemValid _ f l _ ws (rdx_alloc HR.out _) hl).mono ?_)
    rintro e w1 ⟨rfl, hb⟩
    have HB := Lib.hid (below_trans (below_alloc _ _) hb)
    rw [HV.out]
    clear hb
    go_wp2
    go_ret
    exact ⟨by unfold ftxt; rw [if_neg (by rw [HV.out]; simp)]; rfl, HB.out⟩
  · obtain ⟨hf0, hf9, hl1, hl9, hw6, hws⟩ := sval_digits hv
    have HV := Lib.hid hv
    have HWS := Lib.hid hws
    clear hv hws
    go_enter Tryd.func8, Tryd.ntmps8
    go_wp2_with fail
    (with_reducible refine (S_SemValid _ f l _ ws (rdx_alloc HR.out _) hl).mono ?_)
    rintro e w1 ⟨rfl, hb⟩
    have HB := Lib.hid (below_trans (below_alloc _ _) hb)
    have c0 : w1.cell? ⟨w.heap.size, 0, none⟩ = some (.int .i64 f) := cell_b (by simp) hb
    have c1 : w1.cell? ⟨w.heap.size, 1, none⟩ = some (.int .i64 l) := cell_b (by simp) hb
    have c2 : w1.cell? ⟨w.heap.size, 2, none⟩ = some (.slice a ws.length cap) := cell_b (by simp) hb
    rw [HV.out]
    clear hb
    go_wp2_with fail
    have hp : ∀ ω1 ω2 : World, (fun w' : World => w'.cell? ⟨w.heap.size, 0, none⟩ = some (.int .i64 f) ∧ w'.cell? ⟨w.heap.size, 1, none⟩ = some (.int .i64 l) ∧ w'.cell? ⟨w.heap.size, 2, none⟩ = some (.slice a ws.length cap)) ω1 → Below ω1.heap.size ω1 ω2 →
        (fun w' : World => w'.cell? ⟨w.heap.size, 0, none⟩ = some (.int .i64 f) ∧ w'.cell? ⟨w.heap.size, 1, none⟩ = some (.int .i64 l) ∧ w'.cell? ⟨w.heap.size, 2, none⟩ = some (.slice a ws.length cap)) ω2 := fun _ _ h hb => ⟨cell_b h.1 hb, cell_b h.2.1 hb, cell_b h.2.2 hb⟩
    have HP := Lib.hid hp
    clear hp
    refine wp_region_calm (fun w' : World => w'.cell? ⟨w.heap.size, 0, none⟩ = some (.int .i64 f) ∧ w'.cell? ⟨w.heap.size, 1, none⟩ = some (.int .i64 l) ∧ w'.cell? ⟨w.heap.size, 2, none⟩ = some (.slice a ws.length cap)) (by kernel_rfl) (by kernel_rfl) ⟨c0, c1, c2⟩ HP.out ?_
    intro hne hs
    (try dsimp only at hs)
    have q0 := fun n => (hs n).1
    have q1 := fun n => (hs n).2.1
    clear hs
    repeat (go_big_quiet_step (first | (go_at_call 19; with_reducible exact calm_of HP.out (S_l13Dec _ f hf0 hf9)) | (go_at_call 19; with_reducible exact calm_of HP.out (S_l13Dec _ l (by omega) hl9))))
    refine wpQuiet_nil ?_
    rintro _ ⟨n, rfl⟩
    have hb2 := n.below
    have hh := n.holds
    (try dsimp only at hh)
    obtain ⟨d0, d1, d2⟩ := hh
    obtain ⟨w2, hw2⟩ : ∃ w2, n.at_ = w2 := ⟨_, rfl⟩
    rw [hw2] at hb2 d2 ⊢
    have HB2 := Lib.hid (below_trans HB.out hb2)
    have hst : (.string (⟨#[dig f]⟩ ++ ⟨#[47]⟩ ++ ⟨#[dig l]⟩) : Value) = .string ⟨(stxt f l (ws.take 0)).toArray⟩ := by
      exact congrArg Value.string (ByteArray.ext (by simp [stxt]))
    have HST := Lib.hid hst
    have D2 := Lib.hid d2
    clear c0 c1 c2 d0 d1 d2 hb2 HB q0 q1 hst hw2 n hne HP
    go_wp2
    go_loopw [3, 4] (fun vo vi wr => ∃ k : Nat, k ≤ ws.length ∧ vi = .int .i64 (k : Int) ∧ vo = .string ⟨(stxt f l (ws.take k)).toArray⟩ ∧ wr.cell? ⟨w.heap.size, 2, none⟩ = some (.slice a ws.length cap) ∧ Below w.heap.size w wr) (fun _ i _ => ws.length - (intOf i).toNat)
    case atStart => exact ⟨0, Nat.zero_le _, rfl, HST.out, D2.out, HB2.out⟩
    case round =>
      obtain ⟨k, hk, rfl, rfl, c2, hbel⟩ := hrel
      have HBE := Lib.hid hbel
      obtain ⟨T, hT⟩ : ∃ T, stxt f l (ws.take k) = T := ⟨_, rfl⟩
      rw [hT]
      have HT := Lib.hid hT
      clear hT
      by_cases hlt : k < ws.length
      · obtain ⟨a', c', e, _, _, hc⟩ := rdw_cells (rdx_b HR.out hbel)
        simp only [Value.slice.injEq, true_and] at e
        obtain ⟨rfl, rfl⟩ := e
        rcases hc with hc | ⟨g, off, rfl, hg, hc⟩
        · omega
        obtain ⟨e1, e2⟩ := hc k hlt
        obtain ⟨t1, t2, t3, t4⟩ := HWS.out _ (List.getElem_mem hlt)
        have hsn := stxt_snoc (f := f) (l := l) hlt
        obtain ⟨p, hp⟩ : ∃ p, ws[k].1 = p := ⟨_, rfl⟩
        obtain ⟨q, hq⟩ : ∃ q, ws[k].2 = q := ⟨_, rfl⟩
        rw [hp] at e1 t1 t2
        rw [hq] at e2 t3 t4
        rw [hp, hq, HT.out] at hsn
        have HSN := Lib.hid hsn
        have hk0 : (0 : Int) ≤ (k : Int) := by omega
        have hk1 : (k : Int) < (ws.length : Int) := by omega
        have htl : T.length ≤ 1000 := by rw [← HT.out, stxt_len]; simp; omega
        obtain ⟨b1, b2, b3, b4, g1, g2, g3, g4, g5⟩ := cat4 Tryd.prog T p q htl
        have G5 := Lib.hid g5
        clear hc hp hq hsn hbel g5
        go_wp2_with fail
        have hp : ∀ ω1 ω2 : World, (fun w' : World => w'.cell? ⟨w.heap.size, 2, none⟩ = some (.slice (some ⟨g, off, none⟩) ws.length cap) ∧ w'.cell? ⟨g, off + k * 2, none⟩ = some (.int .i64 p) ∧ w'.cell? ⟨g, off + k * 2 + 1, none⟩ = some (.int .i64 q)) ω1 → Below ω1.heap.size ω1 ω2 →
            (fun w' : World => w'.cell? ⟨w.heap.size, 2, none⟩ = some (.slice (some ⟨g, off, none⟩) ws.length cap) ∧ w'.cell? ⟨g, off + k * 2, none⟩ = some (.int .i64 p) ∧ w'.cell? ⟨g, off + k * 2 + 1, none⟩ = some (.int .i64 q)) ω2 := fun _ _ h hb => ⟨cell_b h.1 hb, cell_b h.2.1 hb, cell_b h.2.2 hb⟩
        have HP := Lib.hid hp
        clear hp
        refine wp_region_calm (fun w' : World => w'.cell? ⟨w.heap.size, 2, none⟩ = some (.slice (some ⟨g, off, none⟩) ws.length cap) ∧ w'.cell? ⟨g, off + k * 2, none⟩ = some (.int .i64 p) ∧ w'.cell? ⟨g, off + k * 2 + 1, none⟩ = some (.int .i64 q)) (by kernel_rfl) (by kernel_rfl) ⟨c2, e1, e2⟩ HP.out ?_
        intro hne hs
        (try dsimp only at hs)
        have q0 := fun n => (hs n).1
        have q1 := fun n => (hs n).2.1
        have q2 := fun n => (hs n).2.2
        clear hs e1 e2 c2
        repeat (go_big_quiet_step (first | (go_at_call 19; with_reducible exact calm_of HP.out (S_l13Dec _ p t1 (by omega))) | (go_at_call 19; with_reducible exact calm_of HP.out (S_l13Dec _ q (by omega) t4))))
        refine wpQuiet_nil ?_
        rintro _ ⟨n, rfl⟩
        have d2 := n.holds.1
        have hb2 := n.below
        clear q0 q1 q2
        go_wp2
        go_roundw
        case rel => exact ⟨k + 1, by omega, by go_num, by rw [HSN.out, G5.out], d2, below_trans HBE.out hb2⟩
        case measure => simp [intOf]; omega
      · obtain rfl : k = ws.length := by omega
        go_wp2
        go_ret
        exact ⟨by unfold ftxt; rw [if_pos HV.out, ← HT.out, List.take_length]; rfl, HBE.out⟩
end Go.Proofs.YtcbdpcalmafdiaaDoor
