/- The law FnExactSemValid holds of every input: the row's proof. -/
import Derived.Test.YtcbdpcalmafdiaaLawSemValid
import Derived.Test.YtcbdpcalmafdiaaRowSem
import Derived.Test.YtcbdpcalmafdiaaRowKit
import Derived.ProofKit
import Derived.Lib.SmallJoins
namespace Go.Proofs.Ytcbdpcalmafdiaa
open Go.ChangeShapes Go.WideShapes Go.ChangeAt Go.RowKit

theorem ownFnExactSemValid : ownKnob Try.prog.godebug = none := by kernel_rfl
theorem lawsLaidOut : laidOutB Try.prog = true := by kernel_rfl

set_option maxRecDepth 100000 in
theorem liftedFnExactSemValid (os : Os) (started : os.Started) (H : Type) (enc : TypeId × Value → H) :
    ReturnsInHanded {} Try.checked os 4 .any (Rows.fnExactSemValidSpec.pre6 enc Try.prog Try.f4 Rows.fnExactSemValidRow.domain false) (Rows.fnExactSemValidSpec.post enc Try.prog Try.f4 false true false false) := by
  refine returnsInHanded_of_change (C := Try.checked) ownFnExactSemValid started (by kernel_rfl) Try.func4
    (ChangeSpec.witness6 (enc := enc) (C := Try.checked) false ⟨#[], #[.agg #[.int .i64 0, .int .i64 0, .slice none 0 0]], []⟩ 8 (by kernel_rfl) (by kernel_rfl) (by kernel_rfl) (by kernel_rfl)) ?_
  intro W base args ds gs before hval0 hW _ _
  have hval : ∀ (j : Nat) t v, Try.f4.params[j]? = some t → args[j]? = some v → Value.okWide Try.prog W .any base t v := hval0
  have hW' := hW
  obtain ⟨p, q, hA0, hV, rfl, _, _⟩ := hW
  have hA : DataW.TrodAll enc Try.prog W 0 (fun _ => true) true Try.f4.params.toList args.toList ds p := hA0
  rw [Try.params4] at hA hval
  obtain ⟨v0, d0, rfl, rfl, h0⟩ := trodAll_one hA
  obtain ⟨rfl, rfl⟩ := trodVars_none hV
  have h0k := h0
  obtain ⟨u00, u01, u02, y00, y01, y02, n0, rfl, _, _, t00, t01, t02⟩ := Joins.open_agg3 Try.underlying24 (by kernel_rfl) (show Try.prog.cellsOf 24 = 3 by kernel_rfl) (hval 0 24 v0 rfl rfl) h0
  obtain ⟨x00, e00, _, wx00⟩ := DataW.trod_int Try.underlying3 t00
  simp only [List.cons.injEq, and_true] at e00; subst e00
  obtain ⟨x01, e01, _, wx01⟩ := DataW.trod_int Try.underlying3 t01
  simp only [List.cons.injEq, and_true] at e01; subst e01
  obtain ⟨xs02, hr02, hm02⟩ := rdw_of_trod Try.underlying22 Try.underlying52 rfl (show Try.prog.cellsOf 52 = 2 ∧ Try.prog.cellsOf 3 = 1 from ⟨by kernel_rfl, by kernel_rfl⟩) Try.underlying3 t02
  clear hA0 hval0
  simp only [List.append_nil] at hW'
  refine (W_FnExactSemValid W x00 x01 u02 xs02 hr02 hm02).mono fun e W' ⟨he, hnx⟩ => ?_
  subst he
  refine ⟨_, rfl, _, _, _, [], p, [], hW', ?_, ?_, rfl, hnx.frame _, fun h => by cases h⟩
  · exact trodAll_mk1 (shut_bool Try.underlying4 true)
  · exact trodAll_mk1 (Below.trod lawsLaidOut (by kernel_rfl) (of_decide_eq_true (by kernel_rfl)) h0k hnx (fun x hx => by simpa using hW'.lt x (by first | exact hx | simp [hx])))

theorem holdsFnExactSemValid : Rows.FnExactSemValidSaid :=
  OpenClaim.holds_of_wide 4 Try.f4 rfl rfl rfl rfl rfl rfl rfl ⟨rfl, rfl, rfl, rfl, rfl⟩ rfl rfl rfl rfl rfl (by kernel_rfl) Try.func4 (by kernel_rfl)
    (of_decide_eq_true (by kernel_rfl)) (by unfold Func.isWrapper; rw [if_neg (of_decide_eq_false (by kernel_rfl))]; exact ⟨rfl, rfl⟩)
    (fun os started H enc _ => liftedFnExactSemValid os started H enc)

end Go.Proofs.Ytcbdpcalmafdiaa
