/- The law FnExactLandFlight holds of every input: the row's proof. -/
import Derived.Test.YtafpnkcdoeicgaaLawLandFlightX
import Derived.Test.YtafpnkcdoeicgaaRowFlight
import Derived.Test.YtafpnkcdoeicgaaRowKit
import Derived.ProofKit
import Derived.Lib.SmallJoins
namespace Go.Proofs.Ytafpnkcdoeicgaa
open Go.ChangeShapes Go.WideShapes Go.ChangeAt Go.RowKit

theorem ownFnExactLandFlight : ownKnob Try.prog.godebug = none := by kernel_rfl
theorem lawsLaidOut : laidOutB Try.prog = true := by kernel_rfl

set_option maxRecDepth 100000 in
theorem liftedFnExactLandFlight (os : Os) (started : os.Started) (H : Type) (enc : TypeId × Value → H) :
    ReturnsInHanded {} Try.checked os 6 .any (Rows.fnExactLandFlightSpec.pre6 enc Try.prog Try.f6 Rows.fnExactLandFlightRow.domain false) (Rows.fnExactLandFlightSpec.post enc Try.prog Try.f6 false true false false) := by
  refine returnsInHanded_of_change (C := Try.checked) ownFnExactLandFlight started (by kernel_rfl) Try.func6
    (ChangeSpec.witness6 (enc := enc) (C := Try.checked) false ⟨#[], #[.slice none 0 0, .int .i64 0, .int .i64 0], []⟩ 8 (by kernel_rfl) (by kernel_rfl) (by kernel_rfl) (by kernel_rfl)) ?_
  intro W base args ds gs before hval0 hW _ _
  have hval : ∀ (j : Nat) t v, Try.f6.params[j]? = some t → args[j]? = some v → Value.okWide Try.prog W .any base t v := hval0
  have hW' := hW
  obtain ⟨p, q, hA0, hV, rfl, _, _⟩ := hW
  have hA : DataW.TrodAll enc Try.prog W 0 (fun _ => true) true Try.f6.params.toList args.toList ds p := hA0
  rw [Try.params6] at hA hval
  obtain ⟨v0, v1, v2, d0, d1, d2, p0, p1, p2, rfl, rfl, rfl, h0, h1, h2⟩ := trodAll_three hA
  obtain ⟨rfl, rfl⟩ := trodVars_none hV
  have h0k := h0
  obtain ⟨s0, l0, k0, rfl⟩ := okWide_slice Try.underlying22 (hval 0 22 v0 rfl rfl)
  obtain ⟨fu0, hf0⟩ := h0
  obtain ⟨ts0, hr0, hn0, hm0⟩ := rdf_of_trod Try.underlying22 Try.underlying49 rfl (show Try.prog.cellsOf 49 = 3 ∧ Try.prog.cellsOf 3 = 1 ∧ Try.prog.cellsOf 34 = 1 from ⟨by kernel_rfl, by kernel_rfl, by kernel_rfl⟩) Try.underlying3 Try.underlying34 hf0
  obtain ⟨x1, rfl, rfl, rfl, wx1⟩ := open_int Try.underlying3 (hval 1 3 v1 rfl rfl) h1
  obtain ⟨x2, rfl, rfl, rfl, wx2⟩ := open_int Try.underlying3 (hval 2 3 v2 rfl rfl) h2
  clear hA0 hval0
  simp only [List.append_nil] at hW'
  refine (W_FnExactLandFlight W _ ts0 x1 x2 hr0 hn0 hm0).mono fun e W' ⟨he, hnx⟩ => ?_
  subst he
  refine ⟨_, rfl, _, _, _, [], p0 ++ ([] ++ []), [], hW', ?_, ?_, rfl, hnx.frame _, fun h => by cases h⟩
  · exact trodAll_mk1 (shut_bool Try.underlying4 true)
  · exact trodAll_mk3 (Below.trod lawsLaidOut (by kernel_rfl) (of_decide_eq_true (by kernel_rfl)) h0k hnx (fun x hx => by simpa using hW'.lt x (by first | exact hx | simp [hx]))) (shut_int Try.underlying3 wx1) (shut_int Try.underlying3 wx2)

theorem holdsFnExactLandFlight : Rows.FnExactLandFlightSaid :=
  OpenClaim.holds_of_wide 6 Try.f6 rfl rfl rfl rfl rfl rfl rfl ⟨rfl, rfl, rfl, rfl, rfl⟩ rfl rfl rfl rfl rfl (by kernel_rfl) Try.func6 (by kernel_rfl)
    (of_decide_eq_true (by kernel_rfl)) (by unfold Func.isWrapper; rw [if_neg (of_decide_eq_false (by kernel_rfl))]; exact ⟨rfl, rfl⟩)
    (fun os started H enc _ => liftedFnExactLandFlight os started H enc)

end Go.Proofs.Ytafpnkcdoeicgaa
