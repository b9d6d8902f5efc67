/- The law FnExactNewLock holds of every input: the row's proof. -/
import Derived.Test.YtaoeacclkekokaaLawNew
import Derived.Test.YtaoeacclkekokaaRowKit
import Derived.ProofKit
import Derived.Lib.SmallJoins
namespace Go.Proofs.Ytaoeacclkekokaa
open Go.ChangeShapes Go.WideShapes Go.ChangeAt Go.RowKit

theorem ownFnExactNewLock : ownKnob Try.prog.godebug = none := by kernel_rfl
theorem lawsLaidOut : laidOutB Try.prog = true := by kernel_rfl

set_option maxRecDepth 100000 in
theorem liftedFnExactNewLock (os : Os) (started : os.Started) (H : Type) (enc : TypeId × Value → H) :
    ReturnsInHanded {} Try.checked os 5 .any (Rows.fnExactNewLockSpec.pre6 enc Try.prog Try.f5 Rows.fnExactNewLockRow.domain false) (Rows.fnExactNewLockSpec.post enc Try.prog Try.f5 false true false false) := by
  refine returnsInHanded_of_change (C := Try.checked) ownFnExactNewLock started (by kernel_rfl) Try.func5
    (ChangeSpec.witness6 (enc := enc) (C := Try.checked) false ⟨#[], #[], []⟩ 8 (by kernel_rfl) (by kernel_rfl) (by kernel_rfl) (by kernel_rfl)) ?_
  intro W base args ds gs before hval0 hW _ _
  have hval : ∀ (j : Nat) t v, Try.f5.params[j]? = some t → args[j]? = some v → Value.okWide Try.prog W .any base t v := hval0
  have hW' := hW
  obtain ⟨p, q, hA0, hV, rfl, _, _⟩ := hW
  have hA : DataW.TrodAll enc Try.prog W 0 (fun _ => true) true Try.f5.params.toList args.toList ds p := hA0
  rw [Try.params5] at hA hval
  obtain ⟨rfl, rfl, rfl⟩ := trodAll_none hA
  obtain ⟨rfl, rfl⟩ := trodVars_none hV
  skip
  clear hA0 hval0
  simp only [List.append_nil] at hW'
  refine (W_FnExactNewLock W).mono fun e W' ⟨he, hnx⟩ => ?_
  subst he
  refine ⟨_, rfl, _, _, _, [], [], [], hW', ?_, ?_, rfl, hnx.frame _, fun h => by cases h⟩
  · exact trodAll_mk1 (shut_bool Try.underlying4 true)
  · exact trodAll_mk0

theorem holdsFnExactNewLock : Rows.FnExactNewLockSaid :=
  OpenClaim.holds_of_wide 5 Try.f5 rfl rfl rfl rfl rfl rfl rfl ⟨rfl, rfl, rfl, rfl, rfl⟩ rfl rfl rfl rfl rfl (by kernel_rfl) Try.func5 (by kernel_rfl)
    (of_decide_eq_true (by kernel_rfl)) (by unfold Func.isWrapper; rw [if_neg (of_decide_eq_false (by kernel_rfl))]; exact ⟨rfl, rfl⟩)
    (fun os started H enc _ => liftedFnExactNewLock os started H enc)

end Go.Proofs.Ytaoeacclkekokaa
