/- Words for LandFlight. -/
import Derived.Test.YtafpnkcdoeicgaaJoinI
import Derived.Deep.RegionHeld3
import Derived.Deep.RegionLaw
import Derived.Deep.DrawnRows
namespace Go.Proofs.Ytafpnkcdoeicgaa
open Go.RowKit
attribute [local go_sem ↓] Go.wp_at_zero Go.wp_at_succ

/-- What LandFlight answers. -/
def fland (fs : List Fl) (key t : Int) : List Fl × List Int × Bool :=
  if fval fs = true then
    (match fs.findIdx? (fun f => decide (f.1 = key) && decide (f.2.1 = t)) with
     | some k => (fs.eraseIdx k, (fs.getD k (0, 0, [])).2.2, true)
     | none => ([], [], false))
  else ([], [], false)
theorem fland_inv {fs : List Fl} {key t : Int} (h : fval fs = false) : fland fs key t = ([], [], false) := by unfold fland; rw [if_neg (by rw [h]; simp)]
theorem fland_none {fs : List Fl} {key t : Int} (h : ∀ f ∈ fs, ¬ (f.1 = key ∧ f.2.1 = t)) : fland fs key t = ([], [], false) := by
  unfold fland
  have e : fs.findIdx? (fun f => decide (f.1 = key) && decide (f.2.1 = t)) = none := List.findIdx?_eq_none_iff.2 (fun f hf => by
    have := h f hf; simp only [Bool.and_eq_false_iff, decide_eq_false_iff_not]; by_cases h1 : f.1 = key
    · exact .inr (fun h2 => this ⟨h1, h2⟩)
    · exact .inl h1)
  rw [e]; split <;> rfl
theorem keys_one {ts : List FT} (h : keysOk (ts.map fl) = true) {i j : Nat} (hi : i < ts.length) (hj : j < ts.length) (he : ts[i].1 = ts[j].1) : i = j := by
  rcases Nat.lt_trichotomy i j with h1 | h1 | h1
  · have := keysOk_lt h h1 hj; omega
  · exact h1
  · have := keysOk_lt h h1 hi; omega
theorem erase_fl (ts : List FT) (k : Nat) : (ts.eraseIdx k).map fl = (ts.map fl).eraseIdx k := by
  rw [List.eraseIdx_eq_take_drop_succ, List.eraseIdx_eq_take_drop_succ, List.map_append, List.map_take, List.map_drop]
theorem fland_yes {ts : List FT} {key t : Int} {k : Nat} (hv : fval (ts.map fl) = true) (hk : k < ts.length) (h1 : ts[k].1 = key) (h2 : ts[k].2.1 = t) :
    fland (ts.map fl) key t = ((ts.eraseIdx k).map fl, ts[k].2.2.1, true) := by
  unfold fland
  have e : (ts.map fl).findIdx? (fun f => decide (f.1 = key) && decide (f.2.1 = t)) = some k := by
    rw [List.findIdx?_eq_some_iff_getElem]
    refine ⟨by simpa using hk, by simp [h1, h2], fun j hj => ?_⟩
    have hjl : j < ts.length := by omega
    have := keysOk_lt (fval_in hv).2.1 hj hk
    simp only [List.getElem_map, Bool.and_eq_true, decide_eq_true_eq]
    intro hh
    have h3 : ts[j].1 = key := hh.1
    omega
  rw [if_pos hv, e]
  simp [erase_fl, hk]
/-- What spec.LandFlight hands back: to be read. -/
def LandS (w : World) (fs : List Fl) (key t : Int) (e : Ending) (w' : World) : Prop :=
  ∃ (Rs : List FT) (a : Option Addr) (cap : Nat) (L : List Int) (a2 : Option Addr) (cap2 : Nat) (ok : Bool), fland fs key t = (Rs.map fl, L, ok) ∧ e = .returned (.tuple #[.slice a Rs.length cap, .slice a2 L.length cap2, .bool ok]) ∧
    RdF w' w.heap.size w'.heap.size (.slice a Rs.length cap) Rs ∧ RdI w' w.heap.size w'.heap.size (.slice a2 L.length cap2) L ∧ Below w.heap.size w w'
/-- What impl.LandFlight hands back: one's own; what waited lies behind the flights. -/
def LandI (w : World) (fs : List Fl) (key t : Int) (e : Ending) (w' : World) : Prop :=
  ∃ (Rs : List FT) (a : Option Addr) (cap C : Nat) (L : List Int) (a2 : Option Addr) (cap2 : Nat) (ok : Bool), fland fs key t = (Rs.map fl, L, ok) ∧ e = .returned (.tuple #[.slice a Rs.length cap, .slice a2 L.length cap2, .bool ok]) ∧
    OwF w' 47 w.heap.size C (.slice a Rs.length cap) Rs ∧ w.heap.size ≤ C ∧ OwI w' C w'.heap.size (.slice a2 L.length cap2) L ∧ Below w.heap.size w w'
theorem landi_s {w : World} {fs : List Fl} {key t : Int} {e : Ending} {w' : World} (h : LandI w fs key t e w') : LandS w fs key t e w' := by
  obtain ⟨Rs, a, cap, C, L, a2, cap2, ok, h1, h2, h3, h4, h5, h6⟩ := h
  exact ⟨Rs, a, cap, L, a2, cap2, ok, h1, h2, rdf_mono (owf_rdf h3) (Nat.le_refl _) h3.2.2.2.2.2 (Nat.le_refl _), rdi_mono (owi_rdi h5) h4 (Nat.le_refl _), h6⟩
/-- A flight taken out. -/
theorem erase_map (Ts ts : List FT) (h : Ts.map fl = ts.map fl) (k : Nat) : (Ts.take k ++ Ts.drop (k + 1)).map fl = (ts.eraseIdx k).map fl := by
  rw [← List.eraseIdx_eq_take_drop_succ, erase_fl, erase_fl, h]
theorem take_one {Ts : List FT} (k : Nat) (h : ∀ t ∈ Ts, ∃ a n c, fv t = .slice a n c) : ∀ u ∈ tcs (Ts.take k), u.oneCell' = true := tcs_one (fun t ht => h t (List.mem_of_mem_take ht))
theorem drop_one {Ts : List FT} (k : Nat) (h : ∀ t ∈ Ts, ∃ a n c, fv t = .slice a n c) : ∀ u ∈ tcs (Ts.drop k), u.oneCell' = true := tcs_one (fun t ht => h t (List.mem_of_mem_drop ht))
theorem erase_rdf {w : World} {T B C E k n : Nat} {v v' : Value} {Ts : List FT} (h : OwF w T B C v Ts) (hrow : w.ownsRow E T 3 v' n (tcs (Ts.take k ++ Ts.drop (k + 1)))) (hn : n = (Ts.take k ++ Ts.drop (k + 1)).length) (hBE : B ≤ E) :
    RdF w B w.heap.size v' (Ts.take k ++ Ts.drop (k + 1)) := by
  subst hn
  refine ⟨own_rdx hrow, fun _ g hg => ⟨Nat.le_trans hBE (own_lo hrow g hg), own_hi hrow g hg⟩, fun t ht => ?_, Nat.le_refl _⟩
  have hm : t ∈ Ts := by
    rcases List.mem_append.1 ht with ht | ht
    · exact List.mem_of_mem_take ht
    · exact List.mem_of_mem_drop ht
  exact rdi_mono (owi_rdi (h.2.2.1 t hm)) (Nat.le_refl _) h.2.2.2.2.2
theorem rdi_empty {w : World} {B C : Nat} {a : Option Addr} {c : Nat} (h : Rd w (.slice a 0 c) []) : RdI w B C (.slice a 0 c) [] := ⟨h, fun h0 => absurd rfl h0⟩
end Go.Proofs.Ytafpnkcdoeicgaa
