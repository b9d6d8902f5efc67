/- The law FnExactFormatSem holds of every input: the row's proof, and the card. -/
import Derived.Test.YtcbdpcalmafdiaaDoorLawFormatSem
import Derived.Test.YtcbdpcalmafdiaaDoorRowSem
import Derived.Test.YtcbdpcalmafdiaaDoorRowKit
import Derived.Test.YtcbdpcalmafdiaaDoorCards
import Derived.Test.YtcbdpcalmafdiaaDoorTie
import Derived.ProofKit
import Derived.LaidMore
import Derived.SevenTiedAt
import Derived.Stop.Joined
import Derived.Lib.SmallJoins
namespace Go.Proofs.YtcbdpcalmafdiaaDoor
open Go.ChangeShapes Go.WideShapes Go.ChangeAt Go.RowKit

theorem ownFnExactFormatSem : ownKnob Tryd.prog.godebug = none := by kernel_rfl
theorem lawsLaidOut : laidOutB Tryd.prog = true := by kernel_rfl
set_option maxRecDepth 100000 in
theorem doorMet (os : Os) (args : Array Value) : laidMetH Tryd.prog Rows.fnExactFormatSemRow.laid ((World.doorLaid Tryd.prog 400 os).forCall (fun _ _ => 0) ⟨#[], args, []⟩).memory :=
  laidMetH_of_parts3 (fuel := 8) (laidMet_of_run' 8 (by kernel_rfl) (by kernel_rfl)) (by kernel_rfl) (by kernel_rfl)

set_option maxRecDepth 100000 in
theorem liftedFnExactFormatSem (os : Os) (started : os.Started) (H : Type) (enc : TypeId × Value → H) :
    ReturnsInHanded {} Tryd.checked os 3 .any (fun w args => (Rows.fnExactFormatSemSpec.pre enc Tryd.prog Tryd.f3 [] false w args ∧ laidMetH Tryd.prog Rows.fnExactFormatSemRow.laid w) ∧ sizedMet enc Tryd.prog Tryd.f3 (OpenSpec.ofChange Rows.fnExactFormatSemSpec) false w args)
      (Rows.fnExactFormatSemSpec.post enc Tryd.prog Tryd.f3 false true false false) := by
  refine returnsInHanded_of_change_and (C := Tryd.checked) (X := fun w _ => laidMetH Tryd.prog Rows.fnExactFormatSemRow.laid w) (fun _ _ _ hh h => h.of_heap hh) ownFnExactFormatSem started (by kernel_rfl) Tryd.func3
    (ChangeSpec.witness_shaped (enc := enc) (C := Tryd.checked) (os := os) (X := fun w _ => laidMetH Tryd.prog Rows.fnExactFormatSemRow.laid w) false (World.doorLaid Tryd.prog 400 os) #[.agg #[.int .i64 0, .int .i64 0, .slice none 0 0]] 8 rfl (World.shaped_of_RefB (by kernel_rfl) (by kernel_rfl)) (by kernel_rfl) (by kernel_rfl) (by kernel_rfl) (doorMet os _)) ?_
  intro W base args ds gs before hval0 hW _ _ hL _
  have hval : ∀ (j : Nat) t v, Tryd.f3.params[j]? = some t → args[j]? = some v → Value.okWide Tryd.prog W .any base t v := hval0
  have hW' := hW
  obtain ⟨p, q, hA0, hV, rfl, _, _⟩ := hW
  have hA : DataW.TrodAll enc Tryd.prog W 0 (fun _ => true) true Tryd.f3.params.toList args.toList ds p := hA0
  rw [Tryd.params3] at hA hval
  obtain ⟨v0, d0, rfl, rfl, h0⟩ := trodAll_one hA
  obtain ⟨rfl, rfl⟩ := trodVars_none hV
  have h0k := h0
  obtain ⟨u00, u01, u02, y00, y01, y02, n0, rfl, _, _, t00, t01, t02⟩ := Joins.open_agg3 Tryd.underlying24 (by kernel_rfl) (show Tryd.prog.cellsOf 24 = 3 by kernel_rfl) (hval 0 24 v0 rfl rfl) h0
  obtain ⟨x00, e00, _, wx00⟩ := DataW.trod_int Tryd.underlying3 t00
  simp only [List.cons.injEq, and_true] at e00; subst e00
  obtain ⟨x01, e01, _, wx01⟩ := DataW.trod_int Tryd.underlying3 t01
  simp only [List.cons.injEq, and_true] at e01; subst e01
  obtain ⟨xs02, hr02, hm02⟩ := rdw_of_trod Tryd.underlying22 Tryd.underlying64 rfl (show Tryd.prog.cellsOf 64 = 2 ∧ Tryd.prog.cellsOf 3 = 1 from ⟨by kernel_rfl, by kernel_rfl⟩) Tryd.underlying3 t02
  clear hA0 hval0 hL
  simp only [List.append_nil] at hW'
  refine (W_FnExactFormatSem W x00 x01 u02 xs02 hr02 hm02).mono fun e W' ⟨he, hnx⟩ => ?_
  subst he
  refine ⟨_, rfl, _, _, _, [], p, [], hW', ?_, ?_, rfl, hnx.frame _, fun h => by cases h⟩
  · exact trodAll_mk1 (shut_bool Tryd.underlying4 true)
  · exact trodAll_mk1 (Below.trod lawsLaidOut (by kernel_rfl) (of_decide_eq_true (by kernel_rfl)) h0k hnx (fun x hx => by simpa using hW'.lt x (by first | exact hx | simp [hx])))

theorem rowFnExactFormatSem : Rows.FnExactFormatSemSaid :=
  OpenClaim.holds_of_wide 3 Tryd.f3 rfl rfl rfl rfl rfl rfl rfl ⟨rfl, rfl, rfl, rfl, rfl⟩ rfl rfl rfl rfl rfl (by kernel_rfl) Tryd.func3 (by kernel_rfl)
    (of_decide_eq_true (by kernel_rfl)) (by unfold Func.isWrapper; rw [if_neg (of_decide_eq_false (by kernel_rfl))]; exact ⟨rfl, rfl⟩)
    (fun os started H enc _ => liftedFnExactFormatSem os started H enc)

theorem holdsFnExactFormatSem : Rows.FnExactFormatSemCardSaid :=
  Claim7.holds_tied_plain_at .later [] [.data, .data, .data] true (true, "bb27118996a42594a9d4af82dd095b632bee7e88bb22c7b15f789c9c51551eea") false
    rowFnExactFormatSem (fun _ h => by cases h) (by kernel_rfl) (fun _ h => by cases h) fnExactFormatSem_row_tie rfl ⟨rfl, rfl⟩ (by kernel_rfl) rfl
    (fun f fn hf hfn => by
      obtain rfl : f = 3 := Option.some.inj ((show Tryd.prog.funcNamed "loop.example/waitkit/laws.FnExactFormatSem" = some 3 by kernel_rfl).symm.trans hf) |>.symm
      obtain rfl : fn = Tryd.f3 := (Option.some.inj (Tryd.func3.symm.trans hfn)).symm
      exact ⟨by kernel_rfl, fun j t ht => by
        rw [Tryd.params3] at ht
        have hm : t ∈ [24] := by simpa using Array.mem_of_getElem? ht
        have hall : ([24].all fun u => !Tryd.prog.wantsStandIn u) = true := by kernel_rfl
        exact (show Tryd.prog.wantsStandIn t = false by simpa using List.all_eq_true.1 hall t hm)⟩)
    (by kernel_rfl)

end Go.Proofs.YtcbdpcalmafdiaaDoor
