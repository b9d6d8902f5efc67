/- The law FnLandAll holds of every input: the row's proof. -/
import Derived.Test.YtafpnkcdoeicgaaLawFnLandAll
import Derived.Test.YtafpnkcdoeicgaaRowCode
import Derived.Test.YtafpnkcdoeicgaaRowKit
import Derived.ProofKit
import Derived.Lib.SmallJoins
namespace Go.Proofs.Ytafpnkcdoeicgaa
open Go.ChangeShapes Go.WideShapes Go.ChangeAt Go.RowKit

theorem ownFnLandAll : ownKnob Try.prog.godebug = none := by kernel_rfl
theorem lawsLaidOut : laidOutB Try.prog = true := by kernel_rfl

set_option maxRecDepth 100000 in
theorem liftedFnLandAll (os : Os) (started : os.Started) (H : Type) (enc : TypeId × Value → H) :
    ReturnsInHanded {} Try.checked os 10 .any (Rows.fnLandAllSpec.pre6 enc Try.prog Try.f10 Rows.fnLandAllRow.domain false) (Rows.fnLandAllSpec.post enc Try.prog Try.f10 false true false false) := by
  refine returnsInHanded_of_change (C := Try.checked) ownFnLandAll started (by kernel_rfl) Try.func10
    (ChangeSpec.witness6 (enc := enc) (C := Try.checked) false ⟨#[], #[.slice none 0 0], []⟩ 8 (by kernel_rfl) (by kernel_rfl) (by kernel_rfl) (by kernel_rfl)) ?_
  intro W base args ds gs before hval0 hW _ _
  have hval : ∀ (j : Nat) t v, Try.f10.params[j]? = some t → args[j]? = some v → Value.okWide Try.prog W .any base t v := hval0
  have hW' := hW
  obtain ⟨p, q, hA0, hV, rfl, _, _⟩ := hW
  have hA : DataW.TrodAll enc Try.prog W 0 (fun _ => true) true Try.f10.params.toList args.toList ds p := hA0
  rw [Try.params10] at hA hval
  obtain ⟨v0, d0, rfl, rfl, h0⟩ := trodAll_one hA
  obtain ⟨rfl, rfl⟩ := trodVars_none hV
  have h0k := h0
  obtain ⟨s0, l0, k0, rfl⟩ := okWide_slice Try.underlying39 (hval 0 39 v0 rfl rfl)
  obtain ⟨fu0, hf0⟩ := h0
  obtain ⟨n0, hr0, hm0⟩ := rdy_of_trod Try.underlying39 Try.underlying5 (show Try.prog.cellsOf 5 = 1 by kernel_rfl) hf0
  clear hA0 hval0
  simp only [List.append_nil] at hW'
  refine (W_FnLandAll W _ n0 hr0 hm0).mono fun e W' ⟨he, hnx⟩ => ?_
  subst he
  refine ⟨_, rfl, _, _, _, [], p, [], hW', ?_, ?_, rfl, hnx.frame _, fun h => by cases h⟩
  · exact trodAll_mk1 (shut_bool Try.underlying4 true)
  · exact trodAll_mk1 (Below.trod lawsLaidOut (by kernel_rfl) (of_decide_eq_true (by kernel_rfl)) h0k hnx (fun x hx => by simpa using hW'.lt x (by first | exact hx | simp [hx])))

theorem holdsFnLandAll : Rows.FnLandAllSaid :=
  OpenClaim.holds_of_wide 10 Try.f10 rfl rfl rfl rfl rfl rfl rfl ⟨rfl, rfl, rfl, rfl, rfl⟩ rfl rfl rfl rfl rfl (by kernel_rfl) Try.func10 (by kernel_rfl)
    (of_decide_eq_true (by kernel_rfl)) (by unfold Func.isWrapper; rw [if_neg (of_decide_eq_false (by kernel_rfl))]; exact ⟨rfl, rfl⟩)
    (fun os started H enc _ => liftedFnLandAll os started H enc)

end Go.Proofs.Ytafpnkcdoeicgaa
