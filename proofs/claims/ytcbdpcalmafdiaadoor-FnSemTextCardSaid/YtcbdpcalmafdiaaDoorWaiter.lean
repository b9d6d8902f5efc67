/- Contracts of small functions over slices of waiters (two numbers each). -/
import Derived.Test.YtcbdpcalmafdiaaDoorRows
import Derived.Test.YtcbdpcalmafdiaaDoorLeaf
import Derived.Test.YtcbdpcalmafdiaaDoorRow
import Derived.Test.YtcbdpcalmafdiaaDoorCalm
import Derived.Laws.StructEq
import Derived.BigQuiet
namespace Go.Proofs.YtcbdpcalmafdiaaDoor
open Go.RowKit

theorem infoW : (Tryd.prog.info? 42).map (fun i => (i.zero, i.size, i.bytes)) = some (some (.agg #[.int .i64 0, .int .i64 0]), 2, 16) := by kernel_rfl

/-- v is a slice of waiters of the call's own, from block b on. -/
abbrev OwP (w : World) (b : Nat) (v : Value) (ws : List (Int × Int)) : Prop := w.ownsRow b 42 2 v ws.length (prs ws)
/-- Equal lists of pairs. -/
def eqP (xs ys : List (Int × Int)) : Bool := decide (xs = ys)
theorem eqP_len {xs ys : List (Int × Int)} (h : xs.length ≠ ys.length) : eqP xs ys = false := decide_eq_false (fun e => h (by rw [e]))
theorem eqP_self (xs : List (Int × Int)) : eqP xs xs = true := decide_eq_true rfl
theorem eqP_bad {xs ys : List (Int × Int)} {k : Nat} (h : k < xs.length) (h' : k < ys.length) (hx : ¬ (xs[k].1 = ys[k].1 ∧ xs[k].2 = ys[k].2)) : eqP xs ys = false :=
  decide_eq_false (fun e => by subst e; exact hx ⟨rfl, rfl⟩)
theorem eqP_all {xs ys : List (Int × Int)} {k : Nat} (hl : xs.length = ys.length) (h : xs.length ≤ k) (ht : xs.take k = ys.take k) : eqP xs ys = true := by
  rw [List.take_of_length_le h, List.take_of_length_le (by omega)] at ht
  exact decide_eq_true ht
theorem takeP_succ {xs ys : List (Int × Int)} {k : Nat} (h : k < xs.length) (h' : k < ys.length) (ht : xs.take k = ys.take k) (hx : xs[k].1 = ys[k].1 ∧ xs[k].2 = ys[k].2) : xs.take (k + 1) = ys.take (k + 1) := by
  rw [List.take_succ_eq_append_getElem h, List.take_succ_eq_append_getElem h', ht, show xs[k] = ys[k] from Prod.ext hx.1 hx.2]
def eqW (a b c d : Int) : Bool := decide (a = c) && decide (b = d)
theorem eqW_true {a b c d : Int} (h : eqW a b c d = true) : a = c ∧ b = d := by simpa [eqW] using h
theorem eqW_false {a b c d : Int} (h : eqW a b c d = false) : ¬ (a = c ∧ b = d) := by
  intro ⟨h1, h2⟩; subst h1; subst h2; simp [eqW] at h

theorem wFields : Tryd.prog.underlying 42 = some (.struct (Tryd.prog.fieldsOf 42)) := by kernel_rfl
theorem wStood : Tryd.prog.stoodInHeld 42 = false := by kernel_rfl
theorem wGuard : Tryd.prog.eqGuardType Tryd.prog.depth 42 = false := by kernel_rfl
theorem wList : (Tryd.prog.fieldsOf 42).toList.map (fun f => (f.type, f.offset, f.name)) = [(3, 0, "Thread"), (3, 1, "Count")] := by kernel_rfl
theorem int1 : Tryd.prog.underlying 3 = some (.int .i64) := Tryd.underlying3
theorem wPart (W : World) (a b : Int) : (part 3 #[.int .i64 a, .int .i64 b] 0).run Tryd.prog W = .ok (.int .i64 a) W ∧ (part 3 #[.int .i64 a, .int .i64 b] 1).run Tryd.prog W = .ok (.int .i64 b) W := by
  constructor <;> simp [go_sem, part]
theorem eqW_run (W : World) (a b c d : Int) : (Op.equalIn 10000 42 (.agg #[.int .i64 a, .int .i64 b]) (.agg #[.int .i64 c, .int .i64 d])).run Tryd.prog W = .ok (eqW a b c d) W := by
  rw [run_equalIn_agg _ _ _ _ _ wFields wStood]
  have h := wList
  generalize (Tryd.prog.fieldsOf 42).toList = l at h
  rcases l with _ | ⟨f, _ | ⟨g, _ | ⟨x, l⟩⟩⟩ <;> simp only [List.map_cons, List.map_nil, List.cons.injEq, Prod.mk.injEq, and_true, reduceCtorEq, and_false] at h
  obtain ⟨⟨f1, f2, f3⟩, g1, g2, g3⟩ := h
  have p1 := fun a b => (wPart W a b).1
  have p2 := fun a b => (wPart W a b).2
  have p3 := fun d a b => run_equalIn_int (P := Tryd.prog) W d 3 .i64 .i64 a b int1
  simp only [Op.eqFields, f1, f2, f3, g1, g2, g3]
  by_cases h1 : a = c <;> by_cases h2 : b = d <;> simp [eqW, h1, h2, Sem.run_ite, Sem.run_bind, Sem.run_pure, p1, p2, p3]
theorem neqW_run (W : World) (a b c d : Int) : (binOp .neq 42 (.agg #[.int .i64 a, .int .i64 b]) (.agg #[.int .i64 c, .int .i64 d])).run Tryd.prog W = .ok (.bool (!eqW a b c d)) W := by
  rw [run_neq_struct, eqW_run]; rfl
theorem guardW_run (W : World) (op : BinOp) (x y : Operand) (xs ys : Array Value) : (eqGuard op 42 x y (.agg xs) (.agg ys)).run Tryd.prog W = .ok () W := run_eqGuard_agg W op _ x y xs ys wGuard

theorem L_eqWaiter (w : World) (a b c d : Int) :
    Calls Tryd.prog 36 #[.agg #[.int .i64 a, .int .i64 b], .agg #[.int .i64 c, .int .i64 d]] w fun e w' => e = .returned (.bool (eqW a b c d)) ∧ Below w.heap.size w w' := by
  by_cases h1 : a = c
  · by_cases h2 : b = d
    · subst h1; subst h2
      go_enter Tryd.func36, Tryd.ntmps36
      go_wp2
      go_ret
      exact ⟨by simp [eqW], (below_trans (below_alloc _ _) (below_alloc _ _))⟩
    · subst h1
      go_enter Tryd.func36, Tryd.ntmps36
      go_wp2
      go_ret
      exact ⟨by simp [eqW, h2], (below_trans (below_alloc _ _) (below_alloc _ _))⟩
  · go_enter Tryd.func36, Tryd.ntmps36
    go_wp2
    go_ret
    exact ⟨by simp [eqW, h1], (below_trans (below_alloc _ _) (below_alloc _ _))⟩

theorem L_toWaiter (w : World) (a b : Int) :
    Calls Tryd.prog 33 #[.agg #[.int .i64 a, .int .i64 b]] w fun e w' => e = .returned (.agg #[.int .i64 a, .int .i64 b]) ∧ Below w.heap.size w w' := by
  go_enter Tryd.func33, Tryd.ntmps33
  go_wp2
  refine bodyPost_ret (v := .agg #[.int .i64 a, .int .i64 b]) (by simp [results, Tryd.results33, go_sem]) rfl ⟨rfl, ?_⟩
  exact (below_trans (below_alloc _ _) (below_trans (below_alloc _ _) (below_alloc _ _)))

set_option maxHeartbeats 400000 in
theorem slices_EqualW (w : World) (v u : Value) (xs ys : List (Int × Int)) (hr : RdW w v xs) (hs : RdW w u ys) (hl : xs.length ≤ 4294967296) (_hl' : ys.length ≤ 4294967296) :
    Calls Tryd.prog 29 #[v, u] w fun e w' => e = .returned (.bool (eqP xs ys)) ∧ ∃ n, w' = w.drewN n := by
  obtain ⟨a, cap, rfl, hcap, hnc, hr⟩ := rdw_cells hr
  obtain ⟨b, cap', rfl, hcap', hnc', hs⟩ := rdw_cells hs
  clear hnc hnc'
  by_cases hlen : xs.length = ys.length
  · have hlf : ((xs.length : Int) != (ys.length : Int)) = false := by simp [hlen]
    have HL := Lib.hid hlen
    clear hlen
    go_enter Tryd.func29, Tryd.ntmps29
    go_wp2
    clear hlf
    go_loopw [13] (fun i wr => ∃ k n : Nat, k ≤ xs.length ∧ i = .int .i64 k ∧ xs.take k = ys.take k ∧ wr = w.drewN n) (fun i _ => xs.length - (intOf i).toNat)
    case atStart => exact ⟨0, 0, Nat.zero_le _, rfl, by simp, rfl⟩
    case round =>
      obtain ⟨k, n, hk, rfl, ht, rfl⟩ := hrel
      have HT := Lib.hid ht
      clear ht
      by_cases hlt : k < xs.length
      · have hlt' : k < ys.length := by have := HL.out; omega
        rcases hr with hr | ⟨g, off, rfl, hg, hc⟩
        · omega
        rcases hs with hs | ⟨g', off', rfl, hg', hc'⟩
        · omega
        obtain ⟨e1, e2⟩ := hc k hlt
        obtain ⟨f1, f2⟩ := hc' k hlt'
        have n1 := neqW_run
        have n2 := guardW_run
        clear hc hc'
        by_cases hx : eqW xs[k].1 xs[k].2 ys[k].1 ys[k].2 = true
        · have HX := Lib.hid (eqW_true hx)
          go_wp2
          go_quiet (fail)
          go_wp2
          go_roundw
          case rel => exact ⟨k + 1, n + nq, by omega, by go_num, takeP_succ hlt hlt' HT.out HX.out, rfl⟩
          case measure => simp [intOf]; omega
        · have hx' : eqW xs[k].1 xs[k].2 ys[k].1 ys[k].2 = false := by simpa using hx
          have HX := Lib.hid (eqW_false hx')
          clear hx
          go_wp2
          go_quiet (fail)
          go_wp2
          go_ret
          exact ⟨by rw [eqP_bad hlt hlt' HX.out]; rfl, _, World.drewN_drewN _ _ _⟩
      · go_wp2
        go_ret
        exact ⟨by rw [eqP_all HL.out (by omega) HT.out]; rfl, _, rfl⟩
  · have hlf : ((xs.length : Int) != (ys.length : Int)) = true := by simp; omega
    go_enter Tryd.func29, Tryd.ntmps29
    go_wp2
    go_ret
    exact ⟨by rw [eqP_len hlen]; rfl, 0, rfl⟩
set_option maxHeartbeats 1000000 in
theorem L_eqWaiterS (w : World) (v u : Value) (xs ys : List (Int × Int)) (hr : RdW w v xs) (hs : RdW w u ys) (hl : xs.length ≤ 4294967296) (_hl' : ys.length ≤ 4294967296) :
    Calls Tryd.prog 24 #[v, u] w fun e w' => e = .returned (.bool (eqP xs ys)) ∧ Below w.heap.size w w' := by
  obtain ⟨a, cap, rfl, hcap, hnc, hr⟩ := rdw_cells hr
  obtain ⟨b, cap', rfl, hcap', hnc', hs⟩ := rdw_cells hs
  clear hnc hnc'
  by_cases hlen : xs.length = ys.length
  · have hlf : ((xs.length : Int) != (ys.length : Int)) = false := by simp [hlen]
    have HL := Lib.hid hlen
    clear hlen
    go_enter Tryd.func24, Tryd.ntmps24
    go_wp2
    clear hlf
    go_loopw [5] (fun i wr => ∃ k : Nat, k ≤ xs.length ∧ i = .int .i64 k ∧ xs.take k = ys.take k ∧ Below w.heap.size w wr) (fun i _ => xs.length - (intOf i).toNat)
    case atStart => exact ⟨0, Nat.zero_le _, rfl, by simp, Below.refl _ _⟩
    case round =>
      obtain ⟨k, hk, rfl, ht, hbel⟩ := hrel
      have HT := Lib.hid ht
      clear ht
      by_cases hlt : k < xs.length
      · have hlt' : k < ys.length := by have := HL.out; omega
        rcases hr with hr | ⟨g, off, rfl, hg, hc⟩
        · omega
        rcases hs with hs | ⟨g', off', rfl, hg', hc'⟩
        · omega
        have e1 := cell_b (hc k hlt).1 hbel
        have e2 := cell_b (hc k hlt).2 hbel
        have f1 := cell_b (hc' k hlt').1 hbel
        have f2 := cell_b (hc' k hlt').2 hbel
        have HB := Lib.hid hbel
        have hp : ∀ w1 w2 : World, (fun w' : World => w'.cell? ⟨g, off + k * 2, none⟩ = some (.int .i64 xs[k].1) ∧ w'.cell? ⟨g, off + k * 2 + 1, none⟩ = some (.int .i64 xs[k].2) ∧ w'.cell? ⟨g', off' + k * 2, none⟩ = some (.int .i64 ys[k].1) ∧ w'.cell? ⟨g', off' + k * 2 + 1, none⟩ = some (.int .i64 ys[k].2)) w1 → Below w1.heap.size w1 w2 →
          (fun w' : World => w'.cell? ⟨g, off + k * 2, none⟩ = some (.int .i64 xs[k].1) ∧ w'.cell? ⟨g, off + k * 2 + 1, none⟩ = some (.int .i64 xs[k].2) ∧ w'.cell? ⟨g', off' + k * 2, none⟩ = some (.int .i64 ys[k].1) ∧ w'.cell? ⟨g', off' + k * 2 + 1, none⟩ = some (.int .i64 ys[k].2)) w2 :=
          fun _ _ h hb => ⟨cell_b h.1 hb, cell_b h.2.1 hb, cell_b h.2.2.1 hb, cell_b h.2.2.2 hb⟩
        have HP := Lib.hid hp
        have HC := Lib.hid (And.intro e1 (And.intro e2 (And.intro f1 f2)))
        clear hc hc' hbel hp e1 e2 f1 f2
        by_cases hx : eqW xs[k].1 xs[k].2 ys[k].1 ys[k].2 = true
        · have HX := Lib.hid (eqW_true hx)
          go_wp2
          refine wp_region_calm _ (by kernel_rfl) (by kernel_rfl) HC.out HP.out ?_
          intro hne hs
          have q1 := fun n => (hs n).1
          have q2 := fun n => (hs n).2.1
          have q3 := fun n => (hs n).2.2.1
          have q4 := fun n => (hs n).2.2.2
          clear hs
          repeat (go_big_quiet_step ((go_at_call 36; exact calm_of HP.out (L_eqWaiter _ _ _ _ _))))
          refine wpQuiet_nil ?_
          rintro _ ⟨n, rfl⟩
          go_wp2
          go_roundw
          case rel => exact ⟨k + 1, by omega, by go_num, takeP_succ hlt hlt' HT.out HX.out, below_trans HB.out n.below⟩
          case measure => simp [intOf]; omega
        · have hx' : eqW xs[k].1 xs[k].2 ys[k].1 ys[k].2 = false := by simpa using hx
          have HX := Lib.hid (eqW_false hx')
          clear hx
          go_wp2
          refine wp_region_calm _ (by kernel_rfl) (by kernel_rfl) HC.out HP.out ?_
          intro hne hs
          have q1 := fun n => (hs n).1
          have q2 := fun n => (hs n).2.1
          have q3 := fun n => (hs n).2.2.1
          have q4 := fun n => (hs n).2.2.2
          clear hs
          repeat (go_big_quiet_step ((go_at_call 36; exact calm_of HP.out (L_eqWaiter _ _ _ _ _))))
          refine wpQuiet_nil ?_
          rintro _ ⟨n, rfl⟩
          go_wp2
          go_ret
          exact ⟨by rw [eqP_bad hlt hlt' HX.out]; rfl, below_trans HB.out n.below⟩
      · go_wp2
        go_ret
        exact ⟨by rw [eqP_all HL.out (by omega) HT.out]; rfl, hbel⟩
  · have hlf : ((xs.length : Int) != (ys.length : Int)) = true := by simp; omega
    go_enter Tryd.func24, Tryd.ntmps24
    go_wp2
    go_ret
    exact ⟨by rw [eqP_len hlen]; rfl, Below.refl _ _⟩
theorem L_szWaiterS_ok (w : World) (a : Option Addr) (n cap : Nat) (l : Int) (h : n ≤ l) (h2 : l ≤ 4294967296) :
    Calls Tryd.prog 18 #[.slice a n cap, .int .i64 l] w fun e w' => e = .returned (.int .i64 (l - n)) ∧ w = w' := by
  go_enter Tryd.func18, Tryd.ntmps18
  go_wp2
  go_ret
  exact ⟨rfl, rfl⟩
theorem L_szWaiterS_no (w : World) (a : Option Addr) (n cap : Nat) (l : Int) (h : l < n) (h2 : 0 ≤ l) (hn : n ≤ 9223372036854775807) :
    Calls Tryd.prog 18 #[.slice a n cap, .int .i64 l] w fun e w' => e = .returned (.int .i64 (-1)) ∧ w = w' := by
  go_enter Tryd.func18, Tryd.ntmps18
  go_wp2
  go_ret
  exact ⟨rfl, rfl⟩
set_option maxHeartbeats 1000000 in
theorem L_toWaiterS (w : World) (v : Value) (xs : List (Int × Int)) (hr : RdW w v xs) (hl : xs.length ≤ 4294967296) :
    Calls Tryd.prog 20 #[v] w fun e w' => ∃ a cap, e = .returned (.slice a xs.length cap) ∧ OwP w' w.heap.size (.slice a xs.length cap) xs ∧ Below w.heap.size w w' := by
  obtain ⟨i0, hi, hz0, hz1, hz2⟩ := info_parts infoW
  obtain ⟨a, cap, rfl, hcap, hnc, hr⟩ := rdw_cells hr
  clear hnc
  go_enter Tryd.func20, Tryd.ntmps20
  go_wp2_with (at_make; refine wpList_make_full _ rfl _ _ 27 rfl w.heap.size 42 i0 (.agg #[.int .i64 0, .int .i64 0]) 2 Tryd.underlying27 hi hz0 hz1 .i64 .i64 _ _ xs.length rfl rfl rfl rfl (by rw [hz2]; omega) (by unfold maxLen; omega) (Nat.le_refl _) ?_; intro w1 hown1 hgrow1)
  rw [prs_made] at hown1
  go_loopw [4] (fun i wr => ∃ k : Nat, k ≤ xs.length ∧ i = .int .i64 k ∧ wr.ownsRow w.heap.size 42 2 (.slice (some ⟨w.heap.size, 0, none⟩) xs.length xs.length) xs.length (fillP xs k) ∧ Below w.heap.size w wr) (fun i _ => xs.length - (intOf i).toNat)
  case atStart => exact ⟨0, Nat.zero_le _, rfl, by rw [fillP_zero]; exact hown1, (Below.refl _ _).grown hgrow1 (Nat.le_refl _) (fun j hj => by cases hj)⟩
  case round =>
    obtain ⟨k, hk, rfl, hown, hbel⟩ := hrel
    by_cases hlt : k < xs.length
    · rcases hr with hr | ⟨g, off, rfl, hg, hc⟩
      · omega
      have e1 := cell_b (hc k hlt).1 hbel
      have e2 := cell_b (hc k hlt).2 hbel
      have HB := Lib.hid hbel
      have HO := Lib.hid hown
      clear hc hbel hown hown1 hgrow1
      have hz := fillP_get hlt
      have HZ := Lib.hid hz
      clear hz
      go_wp2_with fail
      refine (L_toWaiter _ _ _).mono ?_
      rintro e w1 ⟨rfl, hb1⟩
      have HO1 := Lib.hid (own_below HO.out hb1)
      have HB1 := Lib.hid (HB.out.trans (hb1.mono HB.out.size))
      clear hb1
      have hf0 := HO1.out.frozenAt (k * 2)
      have hf1 := HO1.out.frozenAt (k * 2 + 1)
      have hd0 := (HO1.out.cellAt (k * 2) (by omega)).trans HZ.out.1
      have hd1 := (HO1.out.cellAt (k * 2 + 1) (by omega)).trans HZ.out.2
      go_wp2
      have hst := ((HO1.out.stored (k * 2) (.int .i64 xs[k].1)).1).stored (k * 2 + 1) (.int .i64 xs[k].2)
      rw [fillP_set hlt] at hst
      have HS := Lib.hid hst.1
      clear hst
      go_roundw
      case rel => exact ⟨k + 1, by omega, by go_num, HS.out, (HB1.out.setCell (Nat.le_refl _) _).setCell (Nat.le_refl _) _⟩
      case measure => simp [intOf]; omega
    · obtain rfl : k = xs.length := by omega
      rw [fillP_all] at hown
      go_wp2
      go_ret
      exact ⟨_, _, rfl, hown, hbel⟩
end Go.Proofs.YtcbdpcalmafdiaaDoor
