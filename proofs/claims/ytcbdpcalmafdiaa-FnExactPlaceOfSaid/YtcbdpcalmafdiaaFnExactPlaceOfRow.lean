/- The law FnExactPlaceOf holds of every input: the row's proof. -/
import Derived.Test.YtcbdpcalmafdiaaLawPlaceOf
import Derived.Test.YtcbdpcalmafdiaaRowSem
import Derived.Test.YtcbdpcalmafdiaaRowKit
import Derived.ProofKit
import Derived.Lib.SmallJoins
namespace Go.Proofs.Ytcbdpcalmafdiaa
open Go.ChangeShapes Go.WideShapes Go.ChangeAt Go.RowKit

theorem ownFnExactPlaceOf : ownKnob Try.prog.godebug = none := by kernel_rfl
theorem lawsLaidOut : laidOutB Try.prog = true := by kernel_rfl

set_option maxRecDepth 100000 in
theorem liftedFnExactPlaceOf (os : Os) (started : os.Started) (H : Type) (enc : TypeId × Value → H) :
    ReturnsInHanded {} Try.checked os 5 .any (Rows.fnExactPlaceOfSpec.pre6 enc Try.prog Try.f5 Rows.fnExactPlaceOfRow.domain false) (Rows.fnExactPlaceOfSpec.post enc Try.prog Try.f5 false true false false) := by
  refine returnsInHanded_of_change (C := Try.checked) ownFnExactPlaceOf started (by kernel_rfl) Try.func5
    (ChangeSpec.witness6 (enc := enc) (C := Try.checked) false ⟨#[], #[.agg #[.int .i64 0, .int .i64 0, .slice none 0 0], .int .i64 0], []⟩ 8 (by kernel_rfl) (by kernel_rfl) (by kernel_rfl) (by kernel_rfl)) ?_
  intro W base args ds gs before hval0 hW _ _
  have hval : ∀ (j : Nat) t v, Try.f5.params[j]? = some t → args[j]? = some v → Value.okWide Try.prog W .any base t v := hval0
  have hW' := hW
  obtain ⟨p, q, hA0, hV, rfl, _, _⟩ := hW
  have hA : DataW.TrodAll enc Try.prog W 0 (fun _ => true) true Try.f5.params.toList args.toList ds p := hA0
  rw [Try.params5] at hA hval
  obtain ⟨v0, v1, d0, d1, p0, p1, rfl, rfl, rfl, h0, h1⟩ := trodAll_two hA
  obtain ⟨rfl, rfl⟩ := trodVars_none hV
  have h0k := h0
  obtain ⟨u00, u01, u02, y00, y01, y02, n0, rfl, _, _, t00, t01, t02⟩ := Joins.open_agg3 Try.underlying24 (by kernel_rfl) (show Try.prog.cellsOf 24 = 3 by kernel_rfl) (hval 0 24 v0 rfl rfl) h0
  obtain ⟨x00, e00, _, wx00⟩ := DataW.trod_int Try.underlying3 t00
  simp only [List.cons.injEq, and_true] at e00; subst e00
  obtain ⟨x01, e01, _, wx01⟩ := DataW.trod_int Try.underlying3 t01
  simp only [List.cons.injEq, and_true] at e01; subst e01
  obtain ⟨xs02, hr02, hm02⟩ := rdw_of_trod Try.underlying22 Try.underlying52 rfl (show Try.prog.cellsOf 52 = 2 ∧ Try.prog.cellsOf 3 = 1 from ⟨by kernel_rfl, by kernel_rfl⟩) Try.underlying3 t02
  obtain ⟨x1, rfl, rfl, rfl, wx1⟩ := open_int Try.underlying3 (hval 1 3 v1 rfl rfl) h1
  clear hA0 hval0
  simp only [List.append_nil] at hW'
  refine (W_FnExactPlaceOf W x00 x01 u02 xs02 x1 hr02 hm02).mono fun e W' ⟨he, hnx⟩ => ?_
  subst he
  refine ⟨_, rfl, _, _, _, [], p0 ++ [], [], hW', ?_, ?_, rfl, hnx.frame _, fun h => by cases h⟩
  · exact trodAll_mk1 (shut_bool Try.underlying4 true)
  · exact trodAll_mk2 (Below.trod lawsLaidOut (by kernel_rfl) (of_decide_eq_true (by kernel_rfl)) h0k hnx (fun x hx => by simpa using hW'.lt x (by first | exact hx | simp [hx]))) (shut_int Try.underlying3 wx1)

theorem holdsFnExactPlaceOf : Rows.FnExactPlaceOfSaid :=
  OpenClaim.holds_of_wide 5 Try.f5 rfl rfl rfl rfl rfl rfl rfl ⟨rfl, rfl, rfl, rfl, rfl⟩ rfl rfl rfl rfl rfl (by kernel_rfl) Try.func5 (by kernel_rfl)
    (of_decide_eq_true (by kernel_rfl)) (by unfold Func.isWrapper; rw [if_neg (of_decide_eq_false (by kernel_rfl))]; exact ⟨rfl, rfl⟩)
    (fun os started H enc _ => liftedFnExactPlaceOf os started H enc)

end Go.Proofs.Ytcbdpcalmafdiaa
