/- The law FnExactFlightsSame holds of every input: the row's proof. -/
import Derived.Test.YtafpnkcdoeicgaaLawFlightsSame
import Derived.Test.YtafpnkcdoeicgaaRowFlight
import Derived.Test.YtafpnkcdoeicgaaRowKit
import Derived.ProofKit
import Derived.Lib.SmallJoins
namespace Go.Proofs.Ytafpnkcdoeicgaa
open Go.ChangeShapes Go.WideShapes Go.ChangeAt Go.RowKit

theorem ownFnExactFlightsSame : ownKnob Try.prog.godebug = none := by kernel_rfl
theorem lawsLaidOut : laidOutB Try.prog = true := by kernel_rfl

set_option maxRecDepth 100000 in
theorem liftedFnExactFlightsSame (os : Os) (started : os.Started) (H : Type) (enc : TypeId × Value → H) :
    ReturnsInHanded {} Try.checked os 3 .any (Rows.fnExactFlightsSameSpec.pre6 enc Try.prog Try.f3 Rows.fnExactFlightsSameRow.domain false) (Rows.fnExactFlightsSameSpec.post enc Try.prog Try.f3 false true false false) := by
  refine returnsInHanded_of_change (C := Try.checked) ownFnExactFlightsSame started (by kernel_rfl) Try.func3
    (ChangeSpec.witness6 (enc := enc) (C := Try.checked) false ⟨#[], #[.slice none 0 0, .slice none 0 0], []⟩ 8 (by kernel_rfl) (by kernel_rfl) (by kernel_rfl) (by kernel_rfl)) ?_
  intro W base args ds gs before hval0 hW _ _
  have hval : ∀ (j : Nat) t v, Try.f3.params[j]? = some t → args[j]? = some v → Value.okWide Try.prog W .any base t v := hval0
  have hW' := hW
  obtain ⟨p, q, hA0, hV, rfl, _, _⟩ := hW
  have hA : DataW.TrodAll enc Try.prog W 0 (fun _ => true) true Try.f3.params.toList args.toList ds p := hA0
  rw [Try.params3] at hA hval
  obtain ⟨v0, v1, d0, d1, p0, p1, rfl, rfl, rfl, h0, h1⟩ := trodAll_two hA
  obtain ⟨rfl, rfl⟩ := trodVars_none hV
  have h0k := h0
  obtain ⟨s0, l0, k0, rfl⟩ := okWide_slice Try.underlying22 (hval 0 22 v0 rfl rfl)
  obtain ⟨fu0, hf0⟩ := h0
  obtain ⟨ts0, hr0, hn0, hm0⟩ := rdf_of_trod Try.underlying22 Try.underlying49 rfl (show Try.prog.cellsOf 49 = 3 ∧ Try.prog.cellsOf 3 = 1 ∧ Try.prog.cellsOf 34 = 1 from ⟨by kernel_rfl, by kernel_rfl, by kernel_rfl⟩) Try.underlying3 Try.underlying34 hf0
  have h1k := h1
  obtain ⟨s1, l1, k1, rfl⟩ := okWide_slice Try.underlying22 (hval 1 22 v1 rfl rfl)
  obtain ⟨fu1, hf1⟩ := h1
  obtain ⟨ts1, hr1, hn1, hm1⟩ := rdf_of_trod Try.underlying22 Try.underlying49 rfl (show Try.prog.cellsOf 49 = 3 ∧ Try.prog.cellsOf 3 = 1 ∧ Try.prog.cellsOf 34 = 1 from ⟨by kernel_rfl, by kernel_rfl, by kernel_rfl⟩) Try.underlying3 Try.underlying34 hf1
  clear hA0 hval0
  simp only [List.append_nil] at hW'
  refine (W_FnExactFlightsSame W _ ts0 _ ts1 hr0 hn0 hm0 hr1 hn1 hm1).mono fun e W' ⟨he, hnx⟩ => ?_
  subst he
  refine ⟨_, rfl, _, _, _, [], p0 ++ p1, [], hW', ?_, ?_, rfl, hnx.frame _, fun h => by cases h⟩
  · exact trodAll_mk1 (shut_bool Try.underlying4 true)
  · exact trodAll_mk2 (Below.trod lawsLaidOut (by kernel_rfl) (of_decide_eq_true (by kernel_rfl)) h0k hnx (fun x hx => by simpa using hW'.lt x (by first | exact hx | simp [hx]))) (Below.trod lawsLaidOut (by kernel_rfl) (of_decide_eq_true (by kernel_rfl)) h1k hnx (fun x hx => by simpa using hW'.lt x (by first | exact hx | simp [hx])))

theorem holdsFnExactFlightsSame : Rows.FnExactFlightsSameSaid :=
  OpenClaim.holds_of_wide 3 Try.f3 rfl rfl rfl rfl rfl rfl rfl ⟨rfl, rfl, rfl, rfl, rfl⟩ rfl rfl rfl rfl rfl (by kernel_rfl) Try.func3 (by kernel_rfl)
    (of_decide_eq_true (by kernel_rfl)) (by unfold Func.isWrapper; rw [if_neg (of_decide_eq_false (by kernel_rfl))]; exact ⟨rfl, rfl⟩)
    (fun os started H enc _ => liftedFnExactFlightsSame os started H enc)

end Go.Proofs.Ytafpnkcdoeicgaa
