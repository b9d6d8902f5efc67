/- The text of a semaphore: impl.FormatSem. -/
import Derived.Test.YtcbdpcalmafdiaaDoorFmtSem
import Derived.Test.YtcbdpcalmafdiaaDoorShelf
import Derived.Deep.RegionHeld3
import Derived.Deep.RegionLaw
import Derived.Deep.DrawnRows
namespace Go.Proofs.YtcbdpcalmafdiaaDoor
open Go.RowKit
attribute [local go_sem ↓] Go.wp_at_zero Go.wp_at_succ

theorem isb_b {T e : TypeId} {B b : Nat} {bs : List Value} {w w' : World} (h : Lib.IsBuilder T e B b bs w) (hb : Below w.heap.size w w') : Lib.IsBuilder T e B b bs w' := by
  have key : ∀ p, Lib.BuilderAt T e B b p bs w → Lib.BuilderAt T e B b p bs w' := fun p ⟨h1, v, h2, h3, h4⟩ => ⟨h1, v, by rw [hb.block b (Array.getElem?_eq_some_iff.1 h2).1]; exact h2, own_below h3 hb, h4⟩
  exact h.imp (key _) (key _)
theorem isb_at {T e : TypeId} {B b : Nat} {bs cs : List Value} {w : World} (h : Lib.BuilderAt T e B b (.pointer (some ⟨b, 0, none⟩)) bs w) (hc : bs = cs) : Lib.IsBuilder T e B b cs w := by subst hc; exact .inr h
theorem cell_under {B : Nat} {w w' : World} {p : Addr} {x : Value} (h : w.cell? p = some x) (hb : Below B w w') (hp : p.block < B) : w'.cell? p = some x := (World.cell?_of_block (hb.block p.block hp)).trans h
theorem cells_put (l s : List UInt8) (S : ByteArray) (h : S = ⟨s.toArray⟩) : Lib.byteCells l ++ Lib.strCells S = Lib.byteCells (l ++ s) := by
  subst h; simp [Lib.byteCells, Lib.strCells]
theorem Itoa_dig (w : World) (n : Int) (h0 : 0 ≤ n) (h9 : n ≤ 9) : Calls Tryd.prog 22 #[.int .i64 n] w fun e w' => e = .returned (.string ⟨#[dig n]⟩) ∧ w = w' := by
  obtain ⟨i, rfl⟩ : ∃ i : Nat, n = (i : Int) := ⟨n.toNat, by omega⟩
  refine (strconv_Itoa_small i (by omega) w).mono ?_
  rintro e w' ⟨rfl, rfl⟩
  refine ⟨?_, rfl⟩
  have hd : Lib.decDigits i = [dig i] := by
    rw [Lib.decDigits, dif_pos (by omega)]; simp [dig]
  rw [hd]
set_option maxHeartbeats 4000000 in
set_option maxRecDepth 100000 in
theorem I_FormatSem (w : World) (f l : Int) (v : Value) (ws : List (Int × Int)) (hr : RdW w v ws) (hl : ws.length ≤ 4294967296) :
    Calls Tryd.prog 10 #[.agg #[.int .i64 f, .int .i64 l, v]] w fun e w' => e = .returned (.string ⟨(ftxt f l ws).toArray⟩) ∧ Below w.heap.size w w' := by
  have HR := Lib.hid hr
  obtain ⟨a, cap, rfl, hcap, hnc, hc0⟩ := rdw_cells hr
  clear hnc hr hc0
  by_cases hv : sval f l ws = true
  rotate_left
  · have hv2 : sval f l ws = false := by simpa using hv
    have HV := Lib.hid hv2
    clear hv hv2
    go_enter Tryd.func10, Tryd.ntmps10
    go_wp2_with fail
    (with_reducible refine (I_SemValid _ f l _ ws (rdx_alloc HR.out _) hl).mono ?_)
    rintro e w1 ⟨rfl, hb⟩
    have HB := Lib.hid (below_trans (below_alloc _ _) hb)
    rw [HV.out]
    clear hb
    go_wp2
    go_ret
    exact ⟨by unfold ftxt; rw [if_neg (by rw [HV.out]; simp)]; rfl, HB.out⟩
  · obtain ⟨hf0, hf9, hl1, hl9, hw6, hws⟩ := sval_digits hv
    have HV := Lib.hid hv
    have HWS := Lib.hid hws
    have hl0 : 0 ≤ l := by omega
    clear hv hws
    go_enter Tryd.func10, Tryd.ntmps10
    go_wp2_with fail
    (with_reducible refine (I_SemValid _ f l _ ws (rdx_alloc HR.out _) hl).mono ?_)
    rintro e w1 ⟨rfl, hb⟩
    have HB := Lib.hid (below_trans (below_alloc _ _) hb)
    have hz : w.heap.size < w1.heap.size := by have := hb.size; simp at this; omega
    have c0 : w1.cell? ⟨w.heap.size, 0, none⟩ = some (.int .i64 f) := cell_b (by simp) hb
    have c1 : w1.cell? ⟨w.heap.size, 1, none⟩ = some (.int .i64 l) := cell_b (by simp) hb
    have c2 : w1.cell? ⟨w.heap.size, 2, none⟩ = some (.slice a ws.length cap) := cell_b (by simp) hb
    have C2 := Lib.hid c2
    rw [HV.out]
    clear hb c2
    have x0 := fun o => cell_b c0 (below_alloc _ o)
    have x1 := fun o => cell_b c1 (below_alloc _ o)
    have HI := Lib.hid (Lib.fresh_isBuilder 46 5 w1)
    clear c0 c1
    go_wp2_with fail
    go_region_held3 (fun w' => w'.cell? ⟨w.heap.size, 0, none⟩ = some (.int .i64 f) ∧ w'.cell? ⟨w.heap.size, 1, none⟩ = some (.int .i64 l)) (first | with_reducible exact ⟨x0 _, x1 _⟩ | with_reducible exact ⟨cell_b (x0 _) (drew_below _), cell_b (x1 _) (drew_below _)⟩ | with_reducible exact ⟨y0, y1⟩ | go_keep)
      (first | (go_at_call 22; (with_reducible refine (Itoa_dig _ f hf0 hf9).mono ?_); rintro e w9 ⟨rfl, rfl⟩) | (go_at_call 22; (with_reducible refine (Itoa_dig _ l hl0 hl9).mono ?_); rintro e w9 ⟨rfl, rfl⟩) | (go_at_call 21; (with_reducible refine (Builder_WriteString w1.heap.size w1.heap.size [] _ _ (isb_b HI.out (drew_below _)) (by simp [ByteArray.size]) (by simp)).mono ?_); rintro e w2 ⟨rfl, hb2, hb3⟩; have y0 := cell_under (p := ⟨w.heap.size, 0, none⟩) (cell_b (x0 _) (drew_below _)) hb3 hz; have y1 := cell_under (p := ⟨w.heap.size, 1, none⟩) (cell_b (x1 _) (drew_below _)) hb3 hz; have HI2 := Lib.hid hb2; have HB3 := Lib.hid hb3; clear hb2 hb3))
    have HI3 : Hid (Lib.IsBuilder 46 5 w1.heap.size w1.heap.size (Lib.byteCells (stxt f l (ws.take 0))) w2) := Lib.hid (isb_at HI2.out (cells_put [] [dig f, 47, dig l] _ (ByteArray.ext (by simp))))
    have HB4 : Hid (Below w1.heap.size w1 w2) := Lib.hid (((below_alloc w1 _).trans ((drew_below _).mono (by simp))).trans HB3.out)
    have c3 : w2.cell? ⟨w.heap.size, 2, none⟩ = some (.slice a ws.length cap) := cell_under C2.out HB4.out hz
    have HRW := Lib.hid (rdx_b HR.out HB.out)
    clear x0 x1 y0 y1 HI HI2 HB3 C2
    go_wp2
    go_loopw [21] (fun vi wr => ∃ k : Nat, k ≤ ws.length ∧ vi = .int .i64 (k : Int) ∧ Lib.IsBuilder 46 5 w1.heap.size w1.heap.size (Lib.byteCells (stxt f l (ws.take k))) wr ∧ Below w1.heap.size w1 wr) (fun i _ => ws.length - (intOf i).toNat)
    case atStart => exact ⟨0, Nat.zero_le _, rfl, HI3.out, HB4.out⟩
    case round =>
      obtain ⟨k, hk, rfl, hib, hbel⟩ := hrel
      have HIB := Lib.hid hib
      have HBE := Lib.hid hbel
      have hsz : w1.heap.size ≤ wr.heap.size := hbel.size
      clear hib hbel c3 HI3 HB4
      by_cases hlt : k < ws.length
      · obtain ⟨a', c', e, _, _, hc⟩ := rdw_cells HRW.out
        simp only [Value.slice.injEq, true_and] at e
        obtain ⟨rfl, rfl⟩ := e
        rcases hc with hc | ⟨g, off, rfl, hg, hc⟩
        · omega
        obtain ⟨e1, e2⟩ := hc k hlt
        replace e1 := cell_under e1 HBE.out hg
        replace e2 := cell_under e2 HBE.out hg
        obtain ⟨t1, t2, t3, t4⟩ := HWS.out _ (List.getElem_mem hlt)
        have hsn := stxt_snoc (f := f) (l := l) hlt
        obtain ⟨p, hp⟩ : ∃ p, ws[k].1 = p := ⟨_, rfl⟩
        obtain ⟨q, hq⟩ : ∃ q, ws[k].2 = q := ⟨_, rfl⟩
        rw [hp] at e1 t1 t2
        rw [hq] at e2 t3 t4
        rw [hp, hq] at hsn
        have HSN := Lib.hid hsn
        have hk0 : (0 : Int) ≤ (k : Int) := by omega
        have hk1 : (k : Int) < (ws.length : Int) := by omega
        have hp9 : p ≤ 9 := by omega
        have hq0 : 0 ≤ q := by omega
        have hln : (Lib.byteCells (stxt f l (ws.take k))).length ≤ 1000 := by rw [Lib.byteCells_length, stxt_len]; simp; omega
        have HLN := Lib.hid hln
        clear hc hp hq hsn hln
        go_wp2_with fail
        go_region_law (first | (go_simp; go_at_call 22; (with_reducible refine (Itoa_dig _ p t1 hp9).mono ?_); rintro e w9 ⟨rfl, rfl⟩) | (go_simp; go_at_call 22; (with_reducible refine (Itoa_dig _ q hq0 t4).mono ?_); rintro e w9 ⟨rfl, rfl⟩) | (go_simp; go_at_call 21; (with_reducible refine (Builder_WriteString w1.heap.size w1.heap.size _ _ _ (isb_b (isb_b HIB.out (below_alloc _ _)) (drew_below _)) (by have := HLN.out; simp [ByteArray.size]; omega) (by simp; omega)).mono ?_); rintro e w3 ⟨rfl, hb2, hb3⟩; have HI5 := Lib.hid hb2; have HB5 := Lib.hid hb3; clear hb2 hb3) | fail)
        all_goals
          go_wp2_with fail
          go_roundw
          case rel => exact ⟨k + 1, by omega, by go_num, by rw [HSN.out]; exact isb_at HI5.out ((cells_put _ [32, dig p, 58, dig q] _ (ByteArray.ext (by simp))).trans (by simp)), (HBE.out.trans (((below_alloc wr _).trans ((drew_below _).mono (by simp))).mono hsz)).trans HB5.out⟩
          case measure => simp [intOf]; omega
      · obtain rfl : k = ws.length := by omega
        go_wp2_with fail
        (with_reducible refine (Builder_String w1.heap.size w1.heap.size _ _ HIB.out (by simp [stxt])).mono ?_)
        rintro e w3 ⟨rfl, hb3⟩
        have HB5 := Lib.hid (HBE.out.trans hb3)
        clear hb3
        go_wp2_with fail
        go_ret
        exact ⟨by unfold ftxt; rw [if_pos HV.out]; rfl, HB.out.trans (HB5.out.mono HB.out.size)⟩
end Go.Proofs.YtcbdpcalmafdiaaDoor
