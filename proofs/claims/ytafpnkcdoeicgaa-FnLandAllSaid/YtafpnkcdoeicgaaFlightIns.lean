/- slices.Insert over flights. -/
import Derived.Test.YtafpnkcdoeicgaaFlightBin
import Derived.Deep.RegionHeld3
import Derived.Deep.RegionLaw
import Derived.Deep.DrawnRows
import Derived.Laws.CopyOwn
import Derived.Lib.Overlaps
import Derived.Lib.AppendZerosOnto
import Derived.Laws.Externs
namespace Go.Proofs.Ytafpnkcdoeicgaa
open Go.RowKit
attribute [local go_sem ↓] Go.wp_at_zero Go.wp_at_succ

section
variable {P : Program} {ops : Array Oper} {o : Oper} {a : Act} {w : World}
theorem run_copy_rowK (w : World) (dT sT ty elem : TypeId) (k g off dLen dCap : Nat) (ad : Addr) (sLen sCap : Nat) (cur : Array Value) (t : TypeId) (cs : List Value)
    (hu : P.underlying dT = some (.slice elem)) (hs : (P.info? elem).map (·.size) = some k)
    (hg : w.heap[g]? = some (.cells cur t (0, 0))) (hn : cs.length = Nat.min sLen dLen * k)
    (hsrc : ∀ j v, cs[j]? = some v → w.cell? (ad.add j) = some v) (hfit : off + cs.length ≤ cur.size) (h1 : ∀ v ∈ cs, v.oneCell' = true) :
    (Builtin.copy_ #[dT, sT] ty #[.slice (some ⟨g, off, none⟩) dLen dCap, .slice (some ad) sLen sCap]).run P w =
      .ok (goInt (Nat.min sLen dLen)) (w.setRow g (cur.toList.take off ++ cs ++ cur.toList.drop (off + cs.length)).toArray) := by
  have hl := run_loadCells_list (P := P) w ad cs hsrc
  have hst := run_storeCells_at P g off t cs 0 cur w hg (by simpa using hfit) h1
  cases hq : P.info? elem with
  | none => simp [hq] at hs
  | some i =>
    have hi : i.size = k := by simpa [hq] using hs
    simp [Builtin.copy_, run_underlying hu, Builtin.lenOf, Builtin.firstCells, sizeOf, typeInfo, hq, hi, ← hn, hl, hst]
theorem fr_setRow (w : World) (g : Nat) (cs : Array Value) : Fr w (w.setRow g cs) g (g + 1) :=
  ⟨rfl, rfl, rfl, by simp [World.setRow], fun k _ hh => setRow_other w g k cs (by omega)⟩
/-- 'copy(d, s)' as one step of a region that draws, elements of k cells, d's row known whole. -/
theorem step_copyK {K : Act → World → Prop} {Q : Exit → Act → World → Prop} {E : Prop} (hw : Region.wanted o (yielded ops a.tmps) = true) (d s : Operand) (dT sT : TypeId)
    (ho : o.op = .call { callee := .builtin .copy, args := #[d, s], argTypes := #[dT, sT] }) (elem k : Nat) (hu : P.underlying dT = some (.slice elem)) (hs : (P.info? elem).map (·.size) = some k)
    (g off dLen dCap : Nat) (ad : Addr) (sLen sCap : Nat) (hd : a.eval d = .slice (some ⟨g, off, none⟩) dLen dCap) (hsv : a.eval s = .slice (some ad) sLen sCap)
    (cur : List Value) (t : TypeId) (hg : w.heap[g]? = some (.cells cur.toArray t (0, 0))) (cs : List Value) (hn : cs.length = Nat.min sLen dLen * k)
    (hsrc : ∀ j v, cs[j]? = some v → w.cell? (ad.add j) = some v) (hfit : off + cs.length ≤ cur.length) (h1 : ∀ v ∈ cs, v.oneCell' = true)
    (h : ∀ w', Hid (w'.heap[g]? = some (.cells (splice cur off cs).toArray t (0, 0))) → Hid (Fr w w' g (g + 1)) → K (a.put o.dst (goInt (Nat.min sLen dLen))) w') :
    if Region.wanted o (yielded ops a.tmps) = true then Oper.wp P o a w K Q else E := by
  rw [if_pos hw]
  have hrun := run_copy_rowK (P := P) w dT sT o.type elem k g off dLen dCap ad sLen sCap cur.toArray t cs hu hs hg hn hsrc (by simpa using hfit) h1
  unfold Oper.wp
  simp only [execOp, ho, resolve, invoke, builtin, Sem.run_bind, Sem.run_pure, Result.andThen_ok, List.map_toArray, List.map_cons, List.map_nil, hd, hsv, hrun]
  exact h _ (Lib.hid (by simpa [splice] using setRow_heap w g _ _ t _ hg)) (Lib.hid (fr_setRow w g _))
/-- The same in a plain region. -/
theorem wpList_copyK {Q : Exit → Act → World → Prop} {rest : List Oper} (hw : Region.wanted o (yielded ops a.tmps) = true) (d s : Operand) (dT sT : TypeId)
    (ho : o.op = .call { callee := .builtin .copy, args := #[d, s], argTypes := #[dT, sT] }) (elem k : Nat) (hu : P.underlying dT = some (.slice elem)) (hs : (P.info? elem).map (·.size) = some k)
    (g off dLen dCap : Nat) (ad : Addr) (sLen sCap : Nat) (hd : a.eval d = .slice (some ⟨g, off, none⟩) dLen dCap) (hsv : a.eval s = .slice (some ad) sLen sCap)
    (cur : List Value) (t : TypeId) (hg : w.heap[g]? = some (.cells cur.toArray t (0, 0))) (cs : List Value) (hn : cs.length = Nat.min sLen dLen * k)
    (hsrc : ∀ j v, cs[j]? = some v → w.cell? (ad.add j) = some v) (hfit : off + cs.length ≤ cur.length) (h1 : ∀ v ∈ cs, v.oneCell' = true)
    (h : ∀ w', Hid (w'.heap[g]? = some (.cells (splice cur off cs).toArray t (0, 0))) → Hid (Fr w w' g (g + 1)) → wpList P ops Q rest (a.put o.dst (goInt (Nat.min sLen dLen))) w') : wpList P ops Q (o :: rest) a w :=
  wpList_step fun _ hK => step_copyK hw d s dT sT ho elem k hu hs g off dLen dCap ad sLen sCap hd hsv cur t hg cs hn hsrc hfit h1 fun w' a1 a2 => hK _ _ (h w' a1 a2)
end

/-- A new flight among those that were there, wherever the row now lies. -/
theorem ins_rdf {w w' : World} {T B C lo hi : Nat} {v v' : Value} {ts : List FT} {i : Nat} {x : FT} (hof : OwF w T B C v ts) (hx3 : fw x = []) (hx4 : fv x = .slice none 0 0)
    (hx : RdX w' 3 v' (ts.length + 1) (tcs (ts.take i ++ [x] ++ ts.drop i))) (hi' : i ≤ ts.length) (hv' : ∀ g, v'.ownBlock = some g → B ≤ g ∧ g < w'.heap.size) (hfr : Fr w w' lo hi) (hsep : ∀ t ∈ ts, ∀ g, (fv t).ownBlock = some g → g < lo ∨ hi ≤ g) :
    RdF w' B w'.heap.size v' (ts.take i ++ [x] ++ ts.drop i) := by
  have hlen : (ts.take i ++ [x] ++ ts.drop i).length = ts.length + 1 := by simp; omega
  refine ⟨by rw [hlen]; exact hx, fun _ => hv', fun t ht => ?_, Nat.le_refl _⟩
  have hold : ∀ t ∈ ts, RdI w' B w'.heap.size (fv t) (fw t) := fun t ht => by
    have h1 := owi_rdi (hof.2.2.1 t ht)
    have h2 : RdI w' B C (fv t) (fw t) := ⟨rd_fr h1.1 hfr (fun _ g hg => hsep t ht g hg), h1.2⟩
    exact rdi_mono h2 (Nat.le_refl _) (Nat.le_trans hof.2.2.2.2.2 hfr.size)
  simp only [List.mem_append, List.mem_singleton] at ht
  rcases ht with (ht | rfl) | ht
  · exact hold t (List.mem_of_mem_take ht)
  · rw [hx3, hx4]; exact ⟨rd_nil _, fun h0 => absurd rfl h0⟩
  · exact hold t (List.mem_of_mem_drop ht)
theorem rdx_row {w : World} {g n cap : Nat} {cs cur : List Value} {T : Nat} (hg : w.heap[g]? = some (.cells cur.toArray T (0, 0))) (hn : n ≤ cap) (hl : cs.length = n * 3) (ht : cur.take (n * 3) = cs) : RdX w 3 (.slice (some ⟨g, 0, none⟩) n cap) n cs := by
  refine ⟨_, _, rfl, hn, fun h => by simp at h, hl, .inr ⟨g, 0, rfl, (Array.getElem?_eq_some_iff.1 hg).1, fun j x hx => ?_⟩⟩
  rw [← ht] at hx
  have hj : j < n * 3 := by
    have := (List.getElem?_eq_some_iff.1 hx).1; simp at this; omega
  rw [List.getElem?_take_of_lt hj] at hx
  simpa [World.cell?, hg] using hx

theorem splice_ins {α : Type} {L T Y : List α} {p q m : Nat} (hT : L.take q = T) (hTl : T.length = q) (hp : p ≤ q) (hY : Y.length = m) (hq : q + m ≤ L.length) :
    (splice (splice L (p + m) (T.drop p)) p Y).take (q + m) = T.take p ++ Y ++ T.drop p := by
  have e1 : (splice L (p + m) (T.drop p)).take p = T.take p := by
    unfold splice; rw [List.take_append_of_le_length (by simp; omega), List.take_take, Nat.min_eq_left (by omega), ← hT, List.take_take, Nat.min_eq_left hp]
  have e2 : (splice L (p + m) (T.drop p)).drop (p + m) = T.drop p ++ L.drop (p + m + (T.drop p).length) := by
    unfold splice; exact List.drop_left' (by simp; omega)
  rw [show splice (splice L (p + m) (T.drop p)) p Y = (splice L (p + m) (T.drop p)).take p ++ (Y ++ (splice L (p + m) (T.drop p)).drop (p + Y.length)) from rfl, hY, e1, e2, ← List.append_assoc, ← List.append_assoc]
  exact List.take_left' (by simp; omega)
theorem splice_new {α : Type} {A Z Y X : List α} {p m q : Nat} (hA : A.length = p) (hY : Y.length = m) (hX : X.length = q) :
    (splice (splice (A ++ Z) p Y) (p + m) X).take (p + m + q) = A ++ Y ++ X := by
  have e1 : splice (A ++ Z) p Y = (A ++ Y) ++ Z.drop m := by
    unfold splice; rw [List.take_left' hA, hY, List.drop_append, List.drop_eq_nil_of_le (by omega), hA, Nat.add_sub_cancel_left, List.nil_append, List.append_assoc]
  have e2 : ((A ++ Y) ++ Z.drop m).take (p + m) = A ++ Y := List.take_left' (by simp; omega)
  rw [e1, show splice ((A ++ Y) ++ Z.drop m) (p + m) X = ((A ++ Y) ++ Z.drop m).take (p + m) ++ (X ++ ((A ++ Y) ++ Z.drop m).drop (p + m + X.length)) from rfl, e2, ← List.append_assoc]
  exact List.take_left' (by simp; omega)
theorem sep_of {w : World} {T B C g n c : Nat} {ts : List FT} (h : OwF w T B C (.slice (some ⟨g, 0, none⟩) n c) ts) : ∀ t ∈ ts, ∀ k, (fv t).ownBlock = some k → k < g ∨ g + 1 ≤ k := fun t ht k hk => by
  have h1 := h.2.2.2.1 t ht g k rfl hk
  omega

/-- What Insert answers. -/
def Ins (w : World) (B : Nat) (ts : List FT) (i : Nat) (x : FT) (e : Ending) (w' : World) : Prop :=
  ∃ (a : Option Addr) (cap : Nat), e = .returned (.slice a (ts.length + 1) cap) ∧ RdF w' B w'.heap.size (.slice a (ts.length + 1) cap) (ts.take i ++ [x] ++ ts.drop i) ∧ Below B w w'
set_option maxHeartbeats 4000000 in
set_option maxRecDepth 100000 in
theorem slices_InsertF (w : World) (B C D : Nat) (v : Value) (ts : List FT) (i : Nat) (key t : Int) (hof : OwF w 47 B C v ts) (hi : i ≤ ts.length) (hl : ts.length ≤ 6) (hBC : B ≤ C) (hCD : C ≤ D) (hD : w.heap[D]? = some (.cells #[.int .i64 key, .int .i64 t, .slice none 0 0] 47 (0, 0))) :
    Calls Try.prog 53 #[v, .int .i64 (i : Int), .slice (some ⟨D, 0, none⟩) 1 1] w (Ins w B ts i (key, t, [], .slice none 0 0)) := by
  obtain ⟨j0, hj, hy0, hy1, hy2⟩ := info_parts infoF
  have HD := Lib.hid hD
  have HOF := Lib.hid hof
  have hDl : D < w.heap.size := (Array.getElem?_eq_some_iff.1 hD).1
  have hrx : RdX w 3 (.slice (some ⟨D, 0, none⟩) 1 1) 1 (tcs [(key, t, [], .slice none 0 0)]) := rdx_row (cur := [.int .i64 key, .int .i64 t, .slice none 0 0]) hD (Nat.le_refl _) rfl rfl
  have HRX := Lib.hid hrx
  clear hD hof hrx
  by_cases hin : i = ts.length
  · subst hin
    have hend : ∀ (b : Option Addr) (c : Nat), v = .slice b ts.length c → True := fun _ _ _ => trivial
    rcases (by obtain ⟨a, c, hv⟩ := own_shape HOF.out.1; subst hv; exact ⟨a, c, rfl⟩ : ∃ a c, v = .slice a ts.length c) with ⟨a, c, rfl⟩
    clear hend
    rcases owf_form HOF.out with ⟨rfl, h0, rfl, rfl⟩ | ⟨g, rfl⟩
    · go_enter Try.func53, Try.ntmps53
      go_wp2_with (at_builtin; refine wpList_append_rdx (by rfl) _ _ 25 rfl B 47 3 40 (.agg #[.int .i64 0, .int .i64 0, .slice none 0 0]) j0 Try.underlying25 hj hy0 hy1 hy2 rfl (by decide) _ (0) (tcs ([] : List FT)) rfl HOF.out.1 _ _ _ (tcs [(key, t, [], .slice none 0 0)]) rfl HRX.out (tcs_one1 _ _ _ _ _ _) (by unfold maxLen; first | omega | (simp; done)) (by first | omega | (simp; done)) (by omega) ?_; intro v1 w1 hown hgr hloc; have ho : w1.ownsRow B 47 3 v1 (0 + 1) (tcs (([] : List FT) ++ [(key, t, [], .slice none 0 0)])) := (by rw [tcs_append]; exact hown); obtain ⟨a2, c2, hv⟩ := own_shape ho; subst hv; have HS := Lib.hid (owf_snoc HOF.out (ow_nil w C) hBC ho rfl hgr hloc); have HB := Lib.hid (below_fr (Below.refl B w) (fr_gr (lo := B) (hi := C) hgr (fun k hk => ⟨own_lo HOF.out.1 k hk, HOF.out.2.1 k hk⟩)) (by omega) (Nat.le_refl _)); clear hown hgr hloc ho)
      all_goals go_ret
      all_goals exact ⟨a2, c2, rfl, by simpa using owf_rdf HS.out, HB.out⟩
    · go_enter Try.func53, Try.ntmps53
      go_wp2_with (at_builtin; refine wpList_append_rdx (by rfl) _ _ 25 rfl B 47 3 40 (.agg #[.int .i64 0, .int .i64 0, .slice none 0 0]) j0 Try.underlying25 hj hy0 hy1 hy2 rfl (by decide) _ (ts.length) (tcs ts) rfl HOF.out.1 _ _ _ (tcs [(key, t, [], .slice none 0 0)]) rfl HRX.out (tcs_one1 _ _ _ _ _ _) (by unfold maxLen; first | omega | (simp; done)) (by first | omega | (simp; done)) (by omega) ?_; intro v1 w1 hown hgr hloc; have ho : w1.ownsRow B 47 3 v1 (ts.length + 1) (tcs (ts ++ [(key, t, [], .slice none 0 0)])) := (by rw [tcs_append]; exact hown); obtain ⟨a2, c2, hv⟩ := own_shape ho; subst hv; have HS := Lib.hid (owf_snoc HOF.out (ow_nil w C) hBC ho rfl hgr hloc); have HB := Lib.hid (below_fr (Below.refl B w) (fr_gr (lo := B) (hi := C) hgr (fun k hk => ⟨own_lo HOF.out.1 k hk, HOF.out.2.1 k hk⟩)) (by omega) (Nat.le_refl _)); clear hown hgr hloc ho)
      all_goals go_ret
      all_goals exact ⟨a2, c2, rfl, by simpa using owf_rdf HS.out, HB.out⟩
  · obtain ⟨a, c, hv⟩ := own_shape HOF.out.1
    subst hv
    obtain ⟨g, rfl⟩ := owf_some HOF.out (by omega)
    obtain ⟨hr0, hr1 | ⟨g', c', cur, hr1, hr2, hr3, hr4, hr5, hr6, hr7⟩⟩ := HOF.out.1
    · omega
    simp only [Value.slice.injEq, Option.some.injEq, Addr.mk.injEq, and_true, true_and] at hr1
    obtain ⟨rfl, rfl⟩ := hr1
    have HCUR := Lib.hid hr3
    have HCUR2 : Hid (w.heap[g]? = some (.cells cur.toList.toArray 47 (0, 0))) := Lib.hid (by simpa using hr3)
    have HTK := Lib.hid hr7
    have HG : Hid (g < C) := Lib.hid (HOF.out.2.1 g rfl)
    have hgD : g ≠ D := by have := HG.out; omega
    clear hr3 hr7
    have hin2 : i < ts.length := by omega
    obtain ⟨n, hn⟩ : ∃ n, ts.length = n := ⟨_, rfl⟩
    rw [hn] at hin2 hr4 hl
    by_cases hc : n + 1 ≤ c
    · have hz2 : ¬ ((i : Int) = (n : Int)) := by omega
      have hz3 : ¬ ((c : Int) < (n : Int) + 1) := by omega
      have hb2 : ¬ (c = i + 1) := by omega
      have hb4 : ¬ (c = i) := by omega
      have hw1 : IntKind.i64.wrap ((i : Int) + 1) = (i : Int) + 1 := IntWalk.i64_in _ (by omega)
      have hw2 : IntKind.i64.wrap ((n : Int) + 1) = (n : Int) + 1 := IntWalk.i64_in _ (by omega)
      have htn : ((i : Int) + 1).toNat = i + 1 := by omega
      have hb1 : (0 : Int) ≤ (i : Int) + 1 := by omega
      have hile : i ≤ n := by omega
      have hb3 : (i : Int) ≤ (n : Int) + 1 := by omega
      have htn2 : ((n : Int) + 1).toNat = n + 1 := by omega
      rw [hn]
      have hsrc : ∀ (W : World), (∀ x, W.cell? x = w.cell? x) → ∀ j v, ((tcs ts).drop (i * 3))[j]? = some v → W.cell? ((⟨g, i * 3, none⟩ : Addr).add j) = some v := fun W hW j v hv => by
        rw [Addr.add_lit, hW, World.cell?]
        rw [List.getElem?_drop, ← HTK.out] at hv
        have hlt : i * 3 + j < n * 3 := by have := (List.getElem?_eq_some_iff.1 hv).1; simp at this; omega
        rw [List.getElem?_take_of_lt (by omega)] at hv
        simpa [HCUR.out] using hv
      have HSRC := Lib.hid hsrc
      have hlx : ((tcs ts).drop (i * 3)).length = Nat.min (n + 1 - i) (n - i) * 3 := by
        rw [List.length_drop, tcs_len, hn]; simp only [Nat.min_def]; split <;> omega
      have HLX := Lib.hid hlx
      have hfit : (i + 1) * 3 + ((tcs ts).drop (i * 3)).length ≤ cur.toList.length := by
        rw [List.length_drop, tcs_len, hn]; simp; omega
      have HFIT := Lib.hid hfit
      have hone : ∀ v ∈ (tcs ts).drop (i * 3), v.oneCell' = true := fun v hv => tcs_one (owf_one HOF.out) v (List.mem_of_mem_drop hv)
      have HONE := Lib.hid hone
      clear hsrc hlx hfit hone
      have hov : ∀ lb cb, (callFunc 67 #[.slice (some ⟨D, 0, none⟩) 1 1, .slice (some ⟨g, (i + 1) * 3, none⟩) lb cb]).run Try.prog w = .ok (.value (.bool false)) w := fun lb cb => by
        rw [run_callFunc_extern Try.func67 (by kernel_rfl) (by kernel_rfl) (by kernel_rfl) (e := Extern.SlicesOverlaps.overlaps #[25, 25] #[4]) (by kernel_rfl),
          Lib.run_overlaps_apart w 25 4 47 Try.underlying25 3 (fun w => by simp [sizeOf, typeInfo, hj, hy1]) ⟨D, 0, none⟩ ⟨g, (i + 1) * 3, none⟩ 1 1 lb cb hgD.symm 47 47 3 cur.size (by simp [World.shape?, HD.out]) (by simp [World.shape?, HCUR.out]) (by omega) (by simp [World.frozen?, HD.out]) (by simp [World.frozen?, HD.out])]
        rfl
      go_enter Try.func53, Try.ntmps53
      go_wp2_with (simp only [hov])
      go_region_law (refine step_copyK (by rfl) _ _ 25 25 rfl 47 3 Try.underlying25 (by simp [hj, hy1]) g ((i + 1) * 3) (n - i) (c - (i + 1)) ⟨g, i * 3, none⟩ (n + 1 - i) (c - i) (by simp [Act.eval, Act.put]) (by simp [Act.eval, Act.put]) cur.toList 47 (HCUR2.out) ((tcs ts).drop (i * 3)) (HLX.out) (HSRC.out _ (fun _ => rfl)) (HFIT.out) (HONE.out) ?_; intro w4 hg4 hb4)
      have HG4 := Lib.hid hg4.out
      have HF4 := Lib.hid (fr_trans (fr_b (lo := g) (hi := g + 1) (drew_below w)) hb4.out)
      have HD4 : Hid (w4.heap[D]? = some (.cells #[.int .i64 key, .int .i64 t, .slice none 0 0] 47 (0, 0))) := Lib.hid (by rw [HF4.out.block D hDl (by have := HG.out; omega)]; exact HD.out)
      have HSD : Hid (∀ j v, (tcs [(key, t, [], .slice none 0 0)])[j]? = some v → w4.cell? ((⟨D, 0, none⟩ : Addr).add j) = some v) := Lib.hid (fun j v hv => by
        rw [Addr.add_lit, World.cell?]; simp only [HD4.out, Nat.zero_add]; simpa [tcs] using hv)
      have HMN : Hid ((tcs [(key, t, [], .slice none 0 0)]).length = Nat.min 1 (n + 1 - i) * 3) := Lib.hid (by
        show 3 = _; simp only [Nat.min_def]; split <;> omega)
      have HFT : Hid (i * 3 + (tcs [(key, t, [], .slice none 0 0)]).length ≤ (splice cur.toList ((i + 1) * 3) ((tcs ts).drop (i * 3))).length) := Lib.hid (by
        rw [length_splice _ _ _ HFIT.out]; show i * 3 + 3 ≤ _; simp; omega)
      clear hg4 hb4
      go_wp2_with (refine wpList_copyK (by rfl) _ _ 25 25 rfl 47 3 Try.underlying25 (by simp [hj, hy1]) g (i * 3) (n + 1 - i) (c - i) ⟨D, 0, none⟩ 1 1 rfl rfl (splice cur.toList ((i + 1) * 3) ((tcs ts).drop (i * 3))) 47 (HG4.out) (tcs [(key, t, [], .slice none 0 0)]) (HMN.out) (HSD.out) (HFT.out) (tcs_one1 _ _ _ _ _ _) ?_; intro w5 hg5 hb5)
      go_ret
      have HF5 := Lib.hid (fr_trans HF4.out hb5.out)
      have hx : RdX w5 3 (.slice (some ⟨g, 0, none⟩) (ts.length + 1) c) (ts.length + 1) (tcs (ts.take i ++ [(key, t, [], .slice none 0 0)] ++ ts.drop i)) := by
        refine rdx_row hg5.out (by omega) (by rw [tcs_len]; simp; omega) ?_
        have h := splice_ins (L := cur.toList) (T := tcs ts) (Y := tcs [(key, t, [], .slice none 0 0)]) (p := i * 3) (q := ts.length * 3) (m := 3) HTK.out (tcs_len _) (by omega) rfl (by simp; omega)
        rw [tcs_append, tcs_append, tcs_take, tcs_drop, show (ts.length + 1) * 3 = ts.length * 3 + 3 by omega, show (i + 1) * 3 = i * 3 + 3 by omega]
        exact h
      exact ⟨_, c, by rw [hn]; rfl, ins_rdf (x := (key, t, [], .slice none 0 0)) HOF.out rfl rfl hx (by omega) (fun k hk => by simp only [Value.ownBlock, Option.some.injEq] at hk; have := HF5.out.size; have := HG.out; omega) HF5.out (sep_of HOF.out), below_fr (Below.refl B w) HF5.out (by omega) (by omega)⟩
    · have hcn : c = n := by omega
      subst hcn
      have hz2 : ¬ ((i : Int) = (c : Int)) := by omega
      have hz3 : (c : Int) < (c : Int) + 1 := by omega
      have hb4 : ¬ (c = i) := by omega
      have hb1 : (0 : Int) ≤ (i : Int) + 1 := by omega
      have hile : i ≤ c := by omega
      have hw1 : IntKind.i64.wrap ((i : Int) + 1) = (i : Int) + 1 := IntWalk.i64_in _ (by omega)
      have hw2 : IntKind.i64.wrap ((c : Int) + 1) = (c : Int) + 1 := IntWalk.i64_in _ (by omega)
      have hw3 : IntKind.i64.wrap ((c : Int) + 1 - (i : Int)) = (c : Int) + 1 - (i : Int) := IntWalk.i64_in _ (by omega)
      have htn : ((i : Int) + 1).toNat = i + 1 := by omega
      have hap : ∃ (G : Nat) (Z : List Value) (W1 : World), (∀ ty, (Builtin.append_ #[25, 3] ty #[.slice (some ⟨g, 0, none⟩) i c, .int .i64 ((c + 1 - i : Nat) : Int)]).run Try.prog w = .ok (.slice (some ⟨w.heap.size, 0, none⟩) (c + 1) G) W1) ∧ c + 1 ≤ G ∧
          W1.heap[w.heap.size]? = some (.cells ((tcs ts).take (i * 3) ++ Z).toArray 47 (0, 0)) ∧ i * 3 + Z.length = G * 3 ∧ Below w.heap.size w W1 ∧ w.heap.size < W1.heap.size := by
        have hold : (Builtin.firstCells j0.size i (.slice (some ⟨g, 0, none⟩) i c)).run Try.prog w.drew = .ok ((tcs ts).take (i * 3)).toArray w.drew :=
          run_firstCells_some w.drew j0.size i ⟨g, 0, none⟩ i c _ (by rw [hy1]; simp [tcs_len]; omega) (fun j v hv => by
            have hlt : j < i * 3 := by have := (List.getElem?_eq_some_iff.1 hv).1; simp at this; omega
            rw [List.getElem?_take_of_lt hlt, ← HTK.out, List.getElem?_take_of_lt (by omega)] at hv
            rw [Addr.add_lit]
            show w.cell? _ = _
            simp [World.cell?, HCUR.out]; simpa using hv)
        have h := fun ty => Lib.run_append_grow_zeros (P := Try.prog) w 25 3 ty 47 j0 _ .i64 .i64 Try.underlying25 Try.underlying3 hj hy0 (some ⟨g, 0, none⟩) i c _ hold (c + 1 - i) (by omega) (by omega) (by omega) (by omega) (by rw [hy2]; omega) (by rw [hy2]; exact growslice_fits (by omega) (by omega))
        have hneed : i + (c + 1 - i) = c + 1 := by omega
        have hge := grownCap_ge w (c + 1) c 47
        rw [hneed] at h
        have hzl : ∀ n, (Builtin.zeroCells (Value.agg #[.int .i64 0, .int .i64 0, .slice none 0 0]).cells n).toList.length = n * 3 := fun n => by simp [Builtin.zeroCells, Value.cells]
        refine ⟨_, (Builtin.zeroCells (Value.agg #[.int .i64 0, .int .i64 0, .slice none 0 0]).cells (c + 1 - i)).toList ++ (Builtin.zeroCells (Value.agg #[.int .i64 0, .int .i64 0, .slice none 0 0]).cells (grownCap w (c + 1) c 47 - (c + 1))).toList, _, h, hge, ?_, ?_, ?_, ?_⟩
        · have e : ∀ (A : List Value) (Y X : Array Value), (A ++ (Y.toList ++ X.toList)).toArray = A.toArray ++ Y ++ X := fun A Y X => by apply Array.toList_inj.1; simp
          rw [e]
          exact (Array.getElem?_push_size : (w.drew.heap.push _)[w.drew.heap.size]? = _)
        · rw [List.length_append, hzl, hzl]; omega
        · exact below_trans (drew_below _) (below_alloc _ _)
        · simp
      obtain ⟨G, Z, W1, hap1, hG, hW1, hZ, hbW, hsW⟩ := hap
      have HAP := Lib.hid hap1
      have HW1 := Lib.hid hW1
      have HBW := Lib.hid hbW
      have hb5 : ¬ (G = i) := by omega
      have hb6 : ¬ (G = i + 1) := by omega
      have hcast : Hid (((c + 1 - i : Nat) : Int) = (c : Int) + 1 - (i : Int)) := Lib.hid (by omega)
      have HDW : Hid (W1.heap[D]? = some (.cells #[.int .i64 key, .int .i64 t, .slice none 0 0] 47 (0, 0))) := Lib.hid (by rw [hbW.block D hDl]; exact HD.out)
      have HSD : Hid (∀ j v, (tcs [(key, t, [], .slice none 0 0)])[j]? = some v → W1.cell? ((⟨D, 0, none⟩ : Addr).add j) = some v) := Lib.hid (fun j v hv => by
        rw [Addr.add_lit, World.cell?]; simp only [HDW.out, Nat.zero_add]; simpa [tcs] using hv)
      have HMN : Hid ((tcs [(key, t, [], .slice none 0 0)]).length = Nat.min 1 (c + 1 - i) * 3) := Lib.hid (by
        show 3 = _; simp only [Nat.min_def]; split <;> omega)
      have HFT : Hid (i * 3 + (tcs [(key, t, [], .slice none 0 0)]).length ≤ ((tcs ts).take (i * 3) ++ Z).length) := Lib.hid (by
        show i * 3 + 3 ≤ _; simp [tcs_len]; omega)
      have HONE : Hid (∀ v ∈ (tcs ts).drop (i * 3), v.oneCell' = true) := Lib.hid (fun v hv => tcs_one (owf_one HOF.out) v (List.mem_of_mem_drop hv))
      clear hap1 hW1 hbW
      rw [hn]
      go_enter Try.func53, Try.ntmps53
      go_wp2_with (first | (at_builtin; refine Lib.wpList_append_run _ rfl _ _ 25 3 rfl _ (.int .i64 ((c + 1 - i : Nat) : Int)) rfl (by rw [hcast.out]; rfl) _ _ (HAP.out _) ?_) | (refine wpList_copyK (by rfl) _ _ 25 25 rfl 47 3 Try.underlying25 (by simp [hj, hy1]) w.heap.size (i * 3) (c + 1 - i) (G - i) ⟨D, 0, none⟩ 1 1 rfl rfl ((tcs ts).take (i * 3) ++ Z) 47 (HW1.out) (tcs [(key, t, [], .slice none 0 0)]) (HMN.out) (HSD.out) (HFT.out) (tcs_one1 _ _ _ _ _ _) ?_; intro w5 hg5 hb5))
      have HF5 := Lib.hid (fr_trans (fr_b (lo := w.heap.size) (hi := w.heap.size + 1) HBW.out) (fr_mono hb5.out (Nat.le_refl _) (Nat.le_refl _)))
      have HG5 := Lib.hid hg5.out
      have HSRC : Hid (∀ (W : World), (∀ x, W.cell? x = w5.cell? x) → ∀ j v, ((tcs ts).drop (i * 3))[j]? = some v → W.cell? ((⟨g, i * 3, none⟩ : Addr).add j) = some v) := Lib.hid (fun W hW j v hv => by
        rw [Addr.add_lit, hW, World.cell?]
        rw [List.getElem?_drop, ← HTK.out] at hv
        have hlt : i * 3 + j < c * 3 := by have := (List.getElem?_eq_some_iff.1 hv).1; simp at this; omega
        rw [List.getElem?_take_of_lt (by omega)] at hv
        have hb9 := HF5.out.block g (by have := HG.out; omega) (by have := HG.out; omega)
        simp only [hb9, HCUR.out]
        simpa using hv)
      have HLX : Hid (((tcs ts).drop (i * 3)).length = Nat.min (c - i) (c - i) * 3) := Lib.hid (by
        rw [List.length_drop, tcs_len, hn]; simp only [Nat.min_def]; split <;> omega)
      have HFIT : Hid ((i + 1) * 3 + ((tcs ts).drop (i * 3)).length ≤ (splice ((tcs ts).take (i * 3) ++ Z) (i * 3) (tcs [(key, t, [], .slice none 0 0)])).length) := Lib.hid (by
        rw [length_splice _ _ _ HFT.out, List.length_drop, tcs_len, hn]; simp [tcs_len]; omega)
      clear hb5 hg5
      go_region_law (refine step_copyK (by rfl) _ _ 25 25 rfl 47 3 Try.underlying25 (by simp [hj, hy1]) w.heap.size ((i + 1) * 3) (c - i) (G - (i + 1)) ⟨g, i * 3, none⟩ (c - i) (c - i) (by simp [Act.eval, Act.put]) (by simp [Act.eval, Act.put]) (splice ((tcs ts).take (i * 3) ++ Z) (i * 3) (tcs [(key, t, [], .slice none 0 0)])) 47 (HG5.out) ((tcs ts).drop (i * 3)) (HLX.out) (HSRC.out _ (fun _ => rfl)) (HFIT.out) (HONE.out) ?_; intro w6 hg6 hb6)
      have HF6 := Lib.hid (fr_trans HF5.out (fr_trans (fr_b (lo := w.heap.size) (hi := w.heap.size + 1) (drew_below w5)) hb6.out))
      have HG6 := Lib.hid hg6.out
      clear hg6 hb6
      go_wp2_with fail
      go_ret
      have hx : RdX w6 3 (.slice (some ⟨w.heap.size, 0, none⟩) (ts.length + 1) G) (ts.length + 1) (tcs (ts.take i ++ [(key, t, [], .slice none 0 0)] ++ ts.drop i)) := by
        refine rdx_row HG6.out (by omega) (by rw [tcs_len]; simp; omega) ?_
        have h := splice_new (A := (tcs ts).take (i * 3)) (Z := Z) (Y := tcs [(key, t, [], .slice none 0 0)]) (X := (tcs ts).drop (i * 3)) (p := i * 3) (m := 3) (q := (c - i) * 3) (by simp [tcs_len]; omega) rfl (by simp [tcs_len]; omega)
        rw [tcs_append, tcs_append, tcs_take, tcs_drop, show (ts.length + 1) * 3 = i * 3 + 3 + (c - i) * 3 by omega, show (i + 1) * 3 = i * 3 + 3 by omega]
        exact h
      exact ⟨_, G, by rw [hn]; rfl, ins_rdf (x := (key, t, [], .slice none 0 0)) HOF.out rfl rfl hx (by omega) (fun k hk => by simp only [Value.ownBlock, Option.some.injEq] at hk; have := (Array.getElem?_eq_some_iff.1 HG6.out).1; omega) HF6.out (fun t ht k hk => .inl (Nat.lt_of_lt_of_le ((HOF.out.2.2.1 t ht).2 k hk) HOF.out.2.2.2.2.2)), below_fr (Below.refl B w) HF6.out (by omega) (by omega)⟩
end Go.Proofs.Ytafpnkcdoeicgaa
