/- The contracts of SemValid. -/
import Derived.Test.YtcbdpcalmafdiaaDoorSem
import Derived.Test.YtcbdpcalmafdiaaDoorCalm
namespace Go.Proofs.YtcbdpcalmafdiaaDoor
open Go.RowKit

/-- Every count is one at least and l at most. -/
def cnts (l : Int) (ws : List (Int × Int)) : Bool := ws.all fun p => decide (1 ≤ p.2) && decide (p.2 ≤ l)
/-- The first one has to wait. -/
def front (f : Int) (ws : List (Int × Int)) : Bool := match ws with | [] => true | p :: _ => decide (f < p.2)
def shead (f l : Int) (ws : List (Int × Int)) : Bool := decide (1 ≤ l) && decide (l ≤ 9) && decide (0 ≤ f) && decide (f ≤ l) && decide (ws.length ≤ 6)
/-- A valid semaphore. -/
def sval (f l : Int) (ws : List (Int × Int)) : Bool := shead f l ws && dist (ws.map Prod.fst) && cnts l ws && front f ws

theorem sval_head {f l : Int} {ws : List (Int × Int)} (h : shead f l ws = false) : sval f l ws = false := by unfold sval; rw [h]; rfl
theorem shead_false {f l : Int} {ws : List (Int × Int)} (h : l < 1 ∨ 9 < l ∨ f < 0 ∨ l < f ∨ 6 < ws.length) : shead f l ws = false := by
  unfold shead; simp only [Bool.and_eq_false_iff, decide_eq_false_iff_not]; omega
theorem shead_true {f l : Int} {ws : List (Int × Int)} (h : shead f l ws = true) : 1 ≤ l ∧ l ≤ 9 ∧ 0 ≤ f ∧ f ≤ l ∧ ws.length ≤ 6 := by
  unfold shead at h; simp only [Bool.and_eq_true, decide_eq_true_eq] at h; omega
theorem sval_parts {f l : Int} {ws : List (Int × Int)} (h : shead f l ws = true) : sval f l ws = (dist (ws.map Prod.fst) && cnts l ws && front f ws) := by unfold sval; rw [h, Bool.true_and]
theorem cnts_nil (l : Int) : cnts l [] = true := rfl
theorem cnts_snoc {l : Int} {ws : List (Int × Int)} {k : Nat} (h : k < ws.length) (h1 : cnts l (ws.take k) = true) (h2 : 1 ≤ ws[k].2) (h3 : ws[k].2 ≤ l) : cnts l (ws.take (k + 1)) = true := by
  rw [List.take_succ_eq_append_getElem h]; unfold cnts at *; rw [List.all_append, h1]; simp [h2, h3]
theorem cnts_bad {l : Int} {ws : List (Int × Int)} {k : Nat} (h : k < ws.length) (hb : ws[k].2 < 1 ∨ l < ws[k].2) : cnts l ws = false := by
  rw [Bool.eq_false_iff]; intro hc
  unfold cnts at hc; rw [List.all_eq_true] at hc
  have := hc _ (List.getElem_mem h)
  simp at this; omega
theorem cnts_all {l : Int} {ws : List (Int × Int)} {k : Nat} (h : ws.length ≤ k) (h1 : cnts l (ws.take k) = true) : cnts l ws = true := by rwa [List.take_of_length_le h] at h1
theorem front_pos {f : Int} {ws : List (Int × Int)} (h : 0 < ws.length) : front f ws = decide (f < ws[0].2) := by
  cases ws with
  | nil => simp at h
  | cons p ws => rfl
theorem sval_end {f l : Int} {ws : List (Int × Int)} (h : shead f l ws = true) (hd : dist (ws.map Prod.fst) = true) (hc : cnts l ws = true) : sval f l ws = front f ws := by
  rw [sval_parts h, hd, hc]; rfl
theorem sval_bad1 {f l : Int} {ws : List (Int × Int)} (h : cnts l ws = false) : sval f l ws = false := by unfold sval; rw [h]; simp
theorem sval_bad2 {f l : Int} {ws : List (Int × Int)} (h : dist (ws.map Prod.fst) = false) : sval f l ws = false := by unfold sval; rw [h]; simp
theorem mapfst_get {ws : List (Int × Int)} {k : Nat} (h : k < ws.length) (h' : k < (ws.map Prod.fst).length) : (ws.map Prod.fst)[k] = ws[k].1 := by simp
theorem mapfst_take (ws : List (Int × Int)) (k : Nat) : (ws.map Prod.fst).take k = (ws.take k).map Prod.fst := by simp
theorem mapfst_snoc {ws : List (Int × Int)} {k : Nat} (h : k < ws.length) : (ws.take (k + 1)).map Prod.fst = (ws.take k).map Prod.fst ++ [ws[k].1] := by
  rw [List.take_succ_eq_append_getElem h, List.map_append]; rfl
theorem news_one {w : World} {g : Nat} {x : Value} (h : w.cell? ⟨g, 0, none⟩ = some x) : ∀ (j : Nat) (u : Value), [x][j]? = some u → w.cell? ((⟨g, 0, none⟩ : Addr).add j) = some u := by
  intro j u hu
  have hj := (List.getElem?_eq_some_iff.1 hu).1
  obtain rfl : j = 0 := by simp at hj; omega
  simp at hu
  subst hu
  simpa [Addr.add] using h
theorem distinct_q {P : Program} {f : FuncId} {args : Array Value} {w : World} {xs : List Int} {b : Bool} (h : Calls P f args w fun e w' => e = .returned (.bool (dist xs)) ∧ Below w.heap.size w w') (hb : dist xs = b) :
    Calls P f args w fun e w' => e = .returned (.bool b) ∧ Below w.heap.size w w' := by subst hb; exact h

/-- At the head of the loop of SemValid: k were looked at. -/
def SVHead (w : World) (l : Int) (v : Value) (f : Int) (ws : List (Int × Int)) (vt vi : Value) (wr : World) : Prop :=
  ∃ (k : Nat) (a : Option Addr) (cap : Nat), k ≤ ws.length ∧ vi = .int .i64 k ∧ vt = .slice a k cap ∧ wr.ownsRow (w.heap.size + 1) 3 1 (.slice a k cap) k (ints ((ws.take k).map Prod.fst)) ∧ cnts l (ws.take k) = true ∧
    wr.cell? ⟨w.heap.size, 0, none⟩ = some (.int .i64 f) ∧ wr.cell? ⟨w.heap.size, 1, none⟩ = some (.int .i64 l) ∧ wr.cell? ⟨w.heap.size, 2, none⟩ = some v ∧ Below w.heap.size w wr ∧ w.heap.size + 1 ≤ wr.heap.size
set_option maxHeartbeats 4000000 in
set_option maxRecDepth 100000 in
theorem I_SemValid (w : World) (f l : Int) (v : Value) (ws : List (Int × Int)) (hr : RdW w v ws) (hl : ws.length ≤ 4294967296) :
    Calls Tryd.prog 16 #[.agg #[.int .i64 f, .int .i64 l, v]] w fun e w' => e = .returned (.bool (sval f l ws)) ∧ Below w.heap.size w w' := by
  obtain ⟨i0, hi, hz0, hz1, hz2⟩ := info_parts info3
  obtain ⟨a, cap, rfl, hcap, hnc, hr⟩ := rdw_cells hr
  clear hnc
  by_cases hh : shead f l ws = true
  · obtain ⟨hh1, hh2, hh3, hh4, hh5⟩ := shead_true hh
    have HH := Lib.hid hh
    clear hh
    go_enter Tryd.func16, Tryd.ntmps16
    go_wp2_with fail
    go_loopw [3, 35] (fun vt vi wr => SVHead w l (.slice a ws.length cap) f ws vt vi wr) (fun _ i _ => ws.length - (intOf i).toNat)
    case atStart => exact ⟨0, none, 0, Nat.zero_le _, rfl, rfl, World.ownsRow_nil _ _ _ _, rfl, by simp, by simp, by simp, below_alloc _ _, by simp⟩
    case round =>
      obtain ⟨k, at_, ct, hk, rfl, rfl, hown, hcn, c0, c1, c2, hbel, hsz⟩ := hrel
      have HO := Lib.hid hown
      have HC := Lib.hid hcn
      have HB := Lib.hid hbel
      have hi_T := Lib.hid (own_hi hown)
      have lo_T := Lib.hid (own_lo hown)
      have C0 := Lib.hid c0
      have C1 := Lib.hid c1
      have C2 := Lib.hid c2
      clear hown hcn hbel
      by_cases hlt : k < ws.length
      · rcases hr with hr | ⟨g, off, rfl, hg, hc⟩
        · omega
        have e1 := cell_b (hc k hlt).1 HB.out
        have e2 := cell_b (hc k hlt).2 HB.out
        clear hc
        by_cases hb : ws[k].2 < 1 ∨ l < ws[k].2
        · have ht : sval f l ws = false := sval_bad1 (cnts_bad hlt hb)
          have HT := Lib.hid ht
          clear ht
          by_cases hb1 : ws[k].2 < 1
          · have a1 := fun o => cell_b c1 (below_alloc _ o)
            clear hb
            go_wp2
            go_ret
            exact ⟨by rw [HT.out]; rfl, HB.out.trans ((below_alloc _ _).mono HB.out.size)⟩
          · have hb2 : l < ws[k].2 := by omega
            have hb3 : 1 ≤ ws[k].2 := by omega
            have a1 := fun o => cell_b c1 (below_alloc _ o)
            clear hb hb1
            go_wp2
            go_ret
            exact ⟨by rw [HT.out]; rfl, HB.out.trans ((below_alloc _ _).mono HB.out.size)⟩
        · have hb3 : 1 ≤ ws[k].2 := by omega
          have hb4 : ws[k].2 ≤ l := by omega
          have a1 := fun o => cell_b c1 (below_alloc _ o)
          have hsn := mapfst_snoc hlt
          have HSN := Lib.hid hsn
          have hcs := cnts_snoc hlt HC.out hb3 hb4
          have HCS := Lib.hid hcs
          clear hb hsn hcs
          go_wp2_with (at_builtin; ((refine wpList_append_own_at _ rfl _ _ 60 rfl (w.heap.size + 1) 3 i0 (.int .i64 0) 1 8 Tryd.underlying60 hi hz0 hz1 hz2 rfl (by decide) (.slice at_ k ct) k (ints ((ws.take k).map Prod.fst)) rfl (own_below (own_below HO.out (below_alloc _ _)) (below_alloc _ _)) ⟨wr.heap.size + 1, 0, none⟩ 1 1 [.int .i64 ws[k].1] rfl rfl (news_one (by simp)) (ints_oneCell .i64 [ws[k].1]) (by unfold maxLen; omega) (by omega) (by simp; try omega) ?_; intro v1 w1 hown hgrow _ hloc)))
          have P2 := below_trans (below_alloc wr (.cells #[.int .i64 ws[k].1, .int .i64 ws[k].2] 42)) (below_alloc _ (.cells #[.int .i64 ws[k].1] 3))
          have hne : ∀ g, (Value.slice at_ k ct).ownBlock = some g → w.heap.size ≠ g := fun g h => by have := lo_T.out g h; omega
          have d0 := cell_gr (cell_b C0.out P2) hgrow hne
          have d1 := cell_gr (cell_b C1.out P2) hgrow hne
          have d2 := cell_gr (cell_b C2.out P2) hgrow hne
          have hg2 := hgrow.size
          simp at hg2
          have hB1 : Below w.heap.size w w1 := below_gr (HB.out.trans (P2.mono HB.out.size)) (by simp; omega) hgrow (fun g h => by have := lo_T.out g h; omega)
          have ho : w1.ownsRow (w.heap.size + 1) 3 1 v1 (k + 1) (ints ((ws.take (k + 1)).map Prod.fst)) := by rw [HSN.out, ints_append]; exact hown
          obtain ⟨a9, c9, hv9⟩ := own_shape ho
          subst hv9
          have HR := Lib.hid (show SVHead w l (.slice (some ⟨g, off, none⟩) ws.length cap) f ws (.slice a9 (k + 1) c9) (.int .i64 ((k + 1 : Nat) : Int)) w1 from ⟨k + 1, a9, c9, by omega, rfl, rfl, ho, HCS.out, d0, d1, d2, hB1, by omega⟩)
          clear hown hgrow hloc P2 hne d0 d1 d2 hB1 ho
          go_roundw
          case rel => exact (by have := HR.out; simpa using this)
          case measure => simp [intOf]; omega
      · obtain rfl : k = ws.length := by omega
        have ho := HO.out
        have hc9 := HC.out
        rw [List.take_of_length_le (Nat.le_refl _)] at ho hc9
        have hrd : Rd wr (.slice at_ ws.length ct) (ws.map Prod.fst) := own_rd (b := w.heap.size + 1) (by show wr.ownsRow _ 3 1 _ (ws.map Prod.fst).length _; rw [List.length_map]; exact ho)
        have HRD := Lib.hid hrd
        have HC9 := Lib.hid hc9
        clear ho hc9 hrd c0 c1 c2
        by_cases hd : dist (ws.map Prod.fst) = true
        · have HD := Lib.hid hd
          have HE := Lib.hid (sval_end HH.out hd HC9.out)
          clear hd
          rcases hr with hr | ⟨g, off, rfl, hg, hc⟩
          · obtain rfl : ws = [] := List.eq_nil_of_length_eq_zero hr
            have HP := Lib.hid (show ∀ w1 w2 : World, (fun w' : World => w'.cell? ⟨w.heap.size, 2, none⟩ = some (.slice a 0 cap) ∧ Rd w' (.slice at_ 0 ct) ([] : List Int)) w1 → Below w1.heap.size w1 w2 → (fun w' : World => w'.cell? ⟨w.heap.size, 2, none⟩ = some (.slice a 0 cap) ∧ Rd w' (.slice at_ 0 ct) ([] : List Int)) w2 from fun _ _ h hb => ⟨cell_b h.1 hb, rd_below h.2 hb⟩)
            have HRD0 : Rd wr (.slice at_ 0 ct) ([] : List Int) := HRD.out
            have HS0 := Lib.hid (And.intro C2.out HRD0)
            clear HRD0
            go_wp2
            refine wp_region_calm _ (by kernel_rfl) (by kernel_rfl) HS0.out HP.out ?_
            intro hne hs
            have q1 := fun n => (hs n).1
            have Q2 := Lib.hid (fun n => (hs n).2)
            clear hs
            repeat (go_big_quiet_step ((go_at_call 31; exact calm_of HP.out (distinct_q (I_distinctThreads _ _ [] (Q2.out _) (by simp)) dist_nil))))
            refine wpQuiet_nil ?_
            rintro _ ⟨n, rfl⟩
            go_wp2
            go_ret
            exact ⟨by rw [HE.out]; rfl, HB.out.trans (n.below.mono HB.out.size)⟩
          · by_cases h0 : 0 < ws.length
            · have e1 := cell_b (hc 0 h0).2 HB.out
              simp only [Nat.zero_mul, Nat.add_zero] at e1
              have hln : ((ws.length : Int) == 0) = false := by rw [beq_eq_false_iff_ne]; omega
              have HF := Lib.hid (front_pos (f := f) h0)
              have hp : ∀ w1 w2 : World, (fun w' : World => w'.cell? ⟨w.heap.size, 0, none⟩ = some (.int .i64 f) ∧ w'.cell? ⟨w.heap.size, 2, none⟩ = some (.slice (some ⟨g, off, none⟩) ws.length cap) ∧ w'.cell? ⟨g, off + 1, none⟩ = some (.int .i64 ws[0].2) ∧ Rd w' (.slice at_ ws.length ct) (ws.map Prod.fst)) w1 → Below w1.heap.size w1 w2 →
                (fun w' : World => w'.cell? ⟨w.heap.size, 0, none⟩ = some (.int .i64 f) ∧ w'.cell? ⟨w.heap.size, 2, none⟩ = some (.slice (some ⟨g, off, none⟩) ws.length cap) ∧ w'.cell? ⟨g, off + 1, none⟩ = some (.int .i64 ws[0].2) ∧ Rd w' (.slice at_ ws.length ct) (ws.map Prod.fst)) w2 := fun _ _ h hb => ⟨cell_b h.1 hb, cell_b h.2.1 hb, cell_b h.2.2.1 hb, rd_below h.2.2.2 hb⟩
              have HP := Lib.hid hp
              have HS0 := Lib.hid (And.intro C0.out (And.intro C2.out (And.intro e1 HRD.out)))
              clear hc hp e1
              go_wp2
              refine wp_region_calm _ (by kernel_rfl) (by kernel_rfl) HS0.out HP.out ?_
              intro hne hs
              have q0 := fun n => (hs n).1
              have q1 := fun n => (hs n).2.1
              have q2 := fun n => (hs n).2.2.1
              have Q2 := Lib.hid (fun n => (hs n).2.2.2)
              clear hs
              repeat (go_big_quiet_step ((go_at_call 31; exact calm_of HP.out (distinct_q (I_distinctThreads _ _ _ (Q2.out _) (by simp; omega)) HD.out))))
              refine wpQuiet_nil ?_
              rintro _ ⟨n, rfl⟩
              go_wp2
              go_ret
              exact ⟨by rw [HE.out, HF.out]; rfl, HB.out.trans (n.below.mono HB.out.size)⟩
            · obtain rfl : ws = [] := List.eq_nil_of_length_eq_zero (by omega)
              have HP := Lib.hid (show ∀ w1 w2 : World, (fun w' : World => w'.cell? ⟨w.heap.size, 2, none⟩ = some (.slice (some ⟨g, off, none⟩) 0 cap) ∧ Rd w' (.slice at_ 0 ct) ([] : List Int)) w1 → Below w1.heap.size w1 w2 → (fun w' : World => w'.cell? ⟨w.heap.size, 2, none⟩ = some (.slice (some ⟨g, off, none⟩) 0 cap) ∧ Rd w' (.slice at_ 0 ct) ([] : List Int)) w2 from fun _ _ h hb => ⟨cell_b h.1 hb, rd_below h.2 hb⟩)
              have HRD0 : Rd wr (.slice at_ 0 ct) ([] : List Int) := HRD.out
              have HS0 := Lib.hid (And.intro C2.out HRD0)
              clear HRD0
              clear hc
              go_wp2
              refine wp_region_calm _ (by kernel_rfl) (by kernel_rfl) HS0.out HP.out ?_
              intro hne hs
              have q1 := fun n => (hs n).1
              have Q2 := Lib.hid (fun n => (hs n).2)
              clear hs
              repeat (go_big_quiet_step ((go_at_call 31; exact calm_of HP.out (distinct_q (I_distinctThreads _ _ [] (Q2.out _) (by simp)) dist_nil))))
              refine wpQuiet_nil ?_
              rintro _ ⟨n, rfl⟩
              go_wp2
              go_ret
              exact ⟨by rw [HE.out]; rfl, HB.out.trans (n.below.mono HB.out.size)⟩
        · have hd' : dist (ws.map Prod.fst) = false := by simpa using hd
          have HD := Lib.hid hd'
          have HE := Lib.hid (sval_bad2 (f := f) (l := l) hd')
          have HP := Lib.hid (show ∀ w1 w2 : World, (fun w' : World => Rd w' (.slice at_ ws.length ct) (ws.map Prod.fst)) w1 → Below w1.heap.size w1 w2 → (fun w' : World => Rd w' (.slice at_ ws.length ct) (ws.map Prod.fst)) w2 from fun _ _ h hb => rd_below h hb)
          clear hd hd' hr
          go_wp2
          refine wp_region_calm _ (by kernel_rfl) (by kernel_rfl) HRD.out HP.out ?_
          intro hne hs
          have Q2 := Lib.hid hs
          clear hs
          repeat (go_big_quiet_step ((go_at_call 31; exact calm_of HP.out (distinct_q (I_distinctThreads _ _ _ (Q2.out _) (by simp; omega)) HD.out))))
          refine wpQuiet_nil ?_
          rintro _ ⟨n, rfl⟩
          go_wp2
          go_ret
          exact ⟨by rw [HE.out]; rfl, HB.out.trans (n.below.mono HB.out.size)⟩
  · have hh' : shead f l ws = false := by simpa using hh
    have HV := Lib.hid (sval_head hh')
    have hq : l < 1 ∨ 9 < l ∨ f < 0 ∨ l < f ∨ 6 < ws.length := by
      by_cases h1 : l < 1 ∨ 9 < l ∨ f < 0 ∨ l < f ∨ 6 < ws.length
      · exact h1
      · exfalso; apply hh; unfold shead; simp only [Bool.and_eq_true, decide_eq_true_eq]; omega
    clear hh hh' hr
    by_cases b1 : l < 1
    · clear hq
      go_enter Tryd.func16, Tryd.ntmps16
      go_wp2
      go_ret
      exact ⟨by rw [HV.out]; rfl, below_alloc _ _⟩
    by_cases b2 : 9 < l
    · clear hq
      go_enter Tryd.func16, Tryd.ntmps16
      go_wp2
      go_ret
      exact ⟨by rw [HV.out]; rfl, below_alloc _ _⟩
    by_cases b3 : f < 0
    · clear hq
      go_enter Tryd.func16, Tryd.ntmps16
      go_wp2
      go_ret
      exact ⟨by rw [HV.out]; rfl, below_alloc _ _⟩
    by_cases b4 : l < f
    · clear hq
      go_enter Tryd.func16, Tryd.ntmps16
      go_wp2
      go_ret
      exact ⟨by rw [HV.out]; rfl, below_alloc _ _⟩
    · have b5 : 6 < ws.length := by omega
      clear hq
      go_enter Tryd.func16, Tryd.ntmps16
      go_wp2
      go_ret
      exact ⟨by rw [HV.out]; rfl, below_alloc _ _⟩
/-- At the head of the outer loop of the reference's SemValid. -/
def SSHead (w : World) (l : Int) (v : Value) (f : Int) (ws : List (Int × Int)) (vi : Value) (wr : World) : Prop :=
  ∃ k : Nat, k ≤ ws.length ∧ vi = .int .i64 k ∧ dist ((ws.map Prod.fst).take k) = true ∧ cnts l (ws.take k) = true ∧
    wr.cell? ⟨w.heap.size, 0, none⟩ = some (.int .i64 f) ∧ wr.cell? ⟨w.heap.size, 1, none⟩ = some (.int .i64 l) ∧ wr.cell? ⟨w.heap.size, 2, none⟩ = some v ∧ Below w.heap.size w wr ∧ w.heap.size + 1 ≤ wr.heap.size
/-- At the head of its inner loop. -/
def SIHead (W w : World) (v : Value) (f l t : Int) (ts : List Int) (k : Nat) (vi : Value) (wr : World) : Prop :=
  ∃ j : Nat, j ≤ k ∧ vi = .int .i64 j ∧ t ∉ ts.take j ∧ wr.cell? ⟨W.heap.size, 0, none⟩ = some (.int .i64 t) ∧ Below W.heap.size W wr ∧
    wr.cell? ⟨w.heap.size, 0, none⟩ = some (.int .i64 f) ∧ wr.cell? ⟨w.heap.size, 1, none⟩ = some (.int .i64 l) ∧ wr.cell? ⟨w.heap.size, 2, none⟩ = some v
set_option maxHeartbeats 4000000 in
set_option maxRecDepth 100000 in
theorem S_SemValid (w : World) (f l : Int) (v : Value) (ws : List (Int × Int)) (hr : RdW w v ws) (hl : ws.length ≤ 4294967296) :
    Calls Tryd.prog 17 #[.agg #[.int .i64 f, .int .i64 l, v]] w fun e w' => e = .returned (.bool (sval f l ws)) ∧ Below w.heap.size w w' := by
  obtain ⟨a, cap, rfl, hcap, hnc, hr⟩ := rdw_cells hr
  clear hnc
  by_cases hh : shead f l ws = true
  · obtain ⟨hh1, hh2, hh3, hh4, hh5⟩ := shead_true hh
    have HH := Lib.hid hh
    clear hh
    go_enter Tryd.func17, Tryd.ntmps17
    go_wp2_with fail
    go_loopw [3] (fun vi wr => SSHead w l (.slice a ws.length cap) f ws vi wr) (fun i _ => ws.length - (intOf i).toNat)
    case atStart => exact ⟨0, Nat.zero_le _, rfl, by simp [dist_nil], rfl, by simp, by simp, by simp, below_alloc _ _, by simp⟩
    case round =>
      obtain ⟨k, hk, rfl, hds, hcn, c0, c1, c2, hbel, hsz⟩ := hrel
      have HD := Lib.hid hds
      have HC := Lib.hid hcn
      have HB := Lib.hid hbel
      have C0 := Lib.hid c0
      have C1 := Lib.hid c1
      have C2 := Lib.hid c2
      clear hds hcn hbel
      by_cases hlt : k < ws.length
      · rcases hr with hr | ⟨g, off, rfl, hg, hc⟩
        · omega
        have e1 := cell_b (hc k hlt).1 HB.out
        have e2 := cell_b (hc k hlt).2 HB.out
        have hlm : k < (ws.map Prod.fst).length := by simpa using hlt
        have HE := Lib.hid (mapfst_get hlt hlm)
        have HCell := Lib.hid hc
        have a1 := fun o => cell_b c1 (below_alloc _ o)
        clear hc
        by_cases hth : thr ws[k].1 = true
        · by_cases hb1 : ws[k].2 < 1
          · have HT := Lib.hid (sval_bad1 (f := f) (cnts_bad hlt (.inl hb1) : cnts l ws = false))
            go_wp2_with fail
            refine (S_l1Thread _ _).mono ?_
            rintro e w1 ⟨rfl, rfl⟩
            rw [hth]
            go_wp2
            go_ret
            exact ⟨by rw [HT.out]; rfl, HB.out.trans ((below_alloc _ _).mono HB.out.size)⟩
          by_cases hb2 : l < ws[k].2
          · have HT := Lib.hid (sval_bad1 (f := f) (cnts_bad hlt (.inr hb2) : cnts l ws = false))
            have hb3 : 1 ≤ ws[k].2 := by omega
            clear hb1
            go_wp2_with fail
            refine (S_l1Thread _ _).mono ?_
            rintro e w1 ⟨rfl, rfl⟩
            rw [hth]
            go_wp2
            go_ret
            exact ⟨by rw [HT.out]; rfl, HB.out.trans ((below_alloc _ _).mono HB.out.size)⟩
          · have hb3 : 1 ≤ ws[k].2 := by omega
            have hb4 : ws[k].2 ≤ l := by omega
            have HTH := Lib.hid hth
            have HCS := Lib.hid (cnts_snoc hlt HC.out hb3 hb4)
            clear hb1 hb2
            go_wp2_with fail
            refine (S_l1Thread _ _).mono ?_
            rintro e w1 ⟨rfl, rfl⟩
            rw [hth]
            clear hth
            go_wp2_with fail
            go_loopw [5] (fun vj wi => SIHead wr w (.slice (some ⟨g, off, none⟩) ws.length cap) f l ws[k].1 (ws.map Prod.fst) k vj wi) (fun j _ => k - (intOf j).toNat)
            case atStart => exact ⟨0, Nat.zero_le _, rfl, by simp, by simp, below_alloc _ _, cell_b C0.out (below_alloc _ _), cell_b C1.out (below_alloc _ _), cell_b C2.out (below_alloc _ _)⟩
            case round =>
              obtain ⟨j, hj, rfl, hnm, ct, hbi, d0, d1, d2⟩ := hrel
              have HNM := Lib.hid hnm
              have HBI := Lib.hid hbi
              have D0 := Lib.hid d0
              have D1 := Lib.hid d1
              have CT := Lib.hid ct
              clear hnm hbi d0 d1 e1 e2 a1
              by_cases hjk : j < k
              · have hjl : j < ws.length := by omega
                have e3 := cell_b (cell_b (HCell.out j hjl).1 HB.out) HBI.out
                have hjm : j < (ws.map Prod.fst).length := by simpa using hjl
                have HJ := Lib.hid (mapfst_get hjl hjm)
                have D2 := Lib.hid d2
                by_cases hq : (ws[j].1 == ws[k].1) = true
                · have HT := Lib.hid (sval_bad2 (f := f) (l := l) (dist_bad hlm (.inr (by
                    rw [HE.out]
                    have : ws[j].1 = ws[k].1 := by simpa using hq
                    rw [← this, ← HJ.out]
                    exact List.mem_take_iff_getElem.2 ⟨j, by omega, rfl⟩))))
                  go_wp2
                  go_quiet (fail)
                  go_wp2
                  go_ret
                  exact ⟨by rw [HT.out]; rfl, (HB.out.trans (HBI.out.mono HB.out.size)).trans ((drewN_below _ _).mono (Nat.le_trans HB.out.size HBI.out.size))⟩
                · have hq' : (ws[j].1 == ws[k].1) = false := by simpa using hq
                  have HN := Lib.hid (not_take_succ hjm (by rw [HJ.out]; exact hq') HNM.out)
                  clear hq
                  go_wp2
                  go_quiet (fail)
                  go_wp2
                  go_roundw
                  case rel => exact ⟨j + 1, by omega, by go_num, HN.out, cell_b CT.out (drewN_below _ _), HBI.out.trans ((drewN_below _ _).mono HBI.out.size), cell_b D0.out (drewN_below _ _), cell_b D1.out (drewN_below _ _), cell_b D2.out (drewN_below _ _)⟩
                  case measure => simp [intOf]; omega
              · obtain rfl : j = k := by omega
                have HDS := Lib.hid (dist_step hlm HD.out (by rw [HE.out]; exact HTH.out) (by rw [HE.out]; exact HNM.out))
                have HC2 := Lib.hid d2
                have hz := HBI.out.size
                go_wp2
                go_roundw
                case rel => exact ⟨j + 1, by omega, by go_num, HDS.out, HCS.out, D0.out, D1.out, HC2.out, HB.out.trans (HBI.out.mono HB.out.size), by omega⟩
                case measure => simp [intOf]; omega
        · have hth' : thr ws[k].1 = false := by simpa using hth
          have HT := Lib.hid (sval_bad2 (f := f) (l := l) (dist_bad hlm (.inl (by rw [HE.out]; exact hth'))))
          clear hth
          go_wp2_with fail
          refine (S_l1Thread _ _).mono ?_
          rintro e w1 ⟨rfl, rfl⟩
          rw [hth']
          go_wp2
          go_ret
          exact ⟨by rw [HT.out]; rfl, HB.out.trans ((below_alloc _ _).mono HB.out.size)⟩
      · obtain rfl : k = ws.length := by omega
        have HE := Lib.hid (sval_end HH.out (dist_all (by simp) HD.out) (cnts_all (Nat.le_refl _) HC.out))
        rcases hr with hr | ⟨g, off, rfl, hg, hc⟩
        · obtain rfl : ws = [] := List.eq_nil_of_length_eq_zero hr
          clear hr
          simp only [List.length_nil] at c2
          go_wp2
          go_quiet (fail)
          go_wp2
          go_ret
          exact ⟨by rw [HE.out]; rfl, HB.out.trans ((drewN_below _ _).mono HB.out.size)⟩
        · by_cases h0 : 0 < ws.length
          · have e1 := cell_b (hc 0 h0).2 HB.out
            simp only [Nat.zero_mul, Nat.add_zero] at e1
            have hln : ((ws.length : Int) == 0) = false := by rw [beq_eq_false_iff_ne]; omega
            have HF := Lib.hid (front_pos (f := f) h0)
            clear hc
            go_wp2
            go_quiet (fail)
            go_wp2
            go_ret
            exact ⟨by rw [HE.out, HF.out]; rfl, HB.out.trans ((drewN_below _ _).mono HB.out.size)⟩
          · obtain rfl : ws = [] := List.eq_nil_of_length_eq_zero (by omega)
            clear hc
            simp only [List.length_nil] at c2
            go_wp2
            go_quiet (fail)
            go_wp2
            go_ret
            exact ⟨by rw [HE.out]; rfl, HB.out.trans ((drewN_below _ _).mono HB.out.size)⟩
  · have hh' : shead f l ws = false := by simpa using hh
    have HV := Lib.hid (sval_head hh')
    have hq : l < 1 ∨ 9 < l ∨ f < 0 ∨ l < f ∨ 6 < ws.length := by
      by_cases h1 : l < 1 ∨ 9 < l ∨ f < 0 ∨ l < f ∨ 6 < ws.length
      · exact h1
      · exfalso; apply hh; unfold shead; simp only [Bool.and_eq_true, decide_eq_true_eq]; omega
    clear hh hh' hr
    by_cases b1 : l < 1
    · clear hq
      go_enter Tryd.func17, Tryd.ntmps17
      go_wp2
      go_ret
      exact ⟨by rw [HV.out]; rfl, below_alloc _ _⟩
    by_cases b2 : 9 < l
    · clear hq
      go_enter Tryd.func17, Tryd.ntmps17
      go_wp2
      go_ret
      exact ⟨by rw [HV.out]; rfl, below_alloc _ _⟩
    by_cases b3 : f < 0
    · clear hq
      go_enter Tryd.func17, Tryd.ntmps17
      go_wp2
      go_ret
      exact ⟨by rw [HV.out]; rfl, below_alloc _ _⟩
    by_cases b4 : l < f
    · clear hq
      go_enter Tryd.func17, Tryd.ntmps17
      go_wp2
      go_ret
      exact ⟨by rw [HV.out]; rfl, below_alloc _ _⟩
    · have b5 : 6 < ws.length := by omega
      clear hq
      go_enter Tryd.func17, Tryd.ntmps17
      go_wp2
      go_ret
      exact ⟨by rw [HV.out]; rfl, below_alloc _ _⟩

end Go.Proofs.YtcbdpcalmafdiaaDoor
