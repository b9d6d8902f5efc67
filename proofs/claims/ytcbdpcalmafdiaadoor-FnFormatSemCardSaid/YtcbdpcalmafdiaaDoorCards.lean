/-
  DERIVED. GIVEN WITH THE SEED: THE CARDS: each row of YtcbdpcalmafdiaaDoorRows.lean that lists a variable, with what it lists TIED to the program's text (the seventh form; the later family's looks); each row that meets fmt, with fmt's text TOLD by the authors' own Lean function (tested against real Go, not proved from fmt's source: count such statements apart). THE CARD IS WHAT COUNTS. Prove the row's statement (the work); the ties are given (YtcbdpcalmafdiaaDoorTie.lean); close each card by the builder's one call (the guide's Derived/Test/ToyasCard.lean, 'card_holds'). Laid BY PROGRAM, IN A SANDBOX (cutbox-door.mjs). By AI agents, Wed Nov 11 2026. No macro, syntax, notation, axiom, sorry.
-/
import Derived.Test.YtcbdpcalmafdiaaDoorRows
import GoSem.ClaimSeven
namespace Go.Proofs.YtcbdpcalmafdiaaDoor
namespace Rows

/-- THE TIED CARD OF 'laws.FnExactFormatSem'. -/
def fnExactFormatSemCard : Claim7 := { stood := { row := fnExactFormatSemRow, standIns := [], harness := (true, "bb27118996a42594a9d4af82dd095b632bee7e88bb22c7b15f789c9c51551eea"), looks := false }, kinds := [], alts := [], laidByText := true, laidKinds := [.data, .data, .data], laidTests := true, laidLooks := .later }
def FnExactFormatSemCardSaid : Prop := Claim7.holds Tryd.pinned (.plain (OpenSpec.ofChange fnExactFormatSemSpec)) fnExactFormatSemCard

/-- THE TIED CARD OF 'laws.FnSemSame'. -/
def fnSemSameCard : Claim7 := { stood := { row := fnSemSameRow, standIns := [], harness := (true, "bb27118996a42594a9d4af82dd095b632bee7e88bb22c7b15f789c9c51551eea"), looks := false }, kinds := [], alts := [], laidByText := true, laidKinds := [.data, .data, .data], laidTests := true, laidLooks := .later }
def FnSemSameCardSaid : Prop := Claim7.holds Tryd.pinned (.plain (OpenSpec.ofChange fnSemSameSpec)) fnSemSameCard

/-- THE TIED CARD OF 'laws.FnFormatSem'. -/
def fnFormatSemCard : Claim7 := { stood := { row := fnFormatSemRow, standIns := [], harness := (true, "bb27118996a42594a9d4af82dd095b632bee7e88bb22c7b15f789c9c51551eea"), looks := false }, kinds := [], alts := [], laidByText := true, laidKinds := [.data, .data, .data], laidTests := true, laidLooks := .later }
def FnFormatSemCardSaid : Prop := Claim7.holds Tryd.pinned (.plain (OpenSpec.ofChange fnFormatSemSpec)) fnFormatSemCard

/-- THE TIED CARD OF 'laws.FnSemText'. -/
def fnSemTextCard : Claim7 := { stood := { row := fnSemTextRow, standIns := [], harness := (true, "bb27118996a42594a9d4af82dd095b632bee7e88bb22c7b15f789c9c51551eea"), looks := false }, kinds := [], alts := [], laidByText := true, laidKinds := [.data, .data, .data], laidTests := true, laidLooks := .later }
def FnSemTextCardSaid : Prop := Claim7.holds Tryd.pinned (.plain (OpenSpec.ofChange fnSemTextSpec)) fnSemTextCard

/-- THE SECOND FORM's CARD OF 'laws.FnExactFormatSem'. -/
def fnExactFormatSemUptoCard : Claim7 := { stood := { row := fnExactFormatSemUptoRow, standIns := [], harness := (true, "bb27118996a42594a9d4af82dd095b632bee7e88bb22c7b15f789c9c51551eea"), looks := false }, kinds := [], alts := [], laidByText := true, laidKinds := [.data, .data, .data], laidTests := true, laidLooks := .later }
def FnExactFormatSemUptoCardSaid : Prop := Claim7.holds Tryd.pinned (.plain (OpenSpec.upto fnExactFormatSemSpec)) fnExactFormatSemUptoCard

/-- THE SECOND FORM's CARD OF 'laws.FnSemSame'. -/
def fnSemSameUptoCard : Claim7 := { stood := { row := fnSemSameUptoRow, standIns := [], harness := (true, "bb27118996a42594a9d4af82dd095b632bee7e88bb22c7b15f789c9c51551eea"), looks := false }, kinds := [], alts := [], laidByText := true, laidKinds := [.data, .data, .data], laidTests := true, laidLooks := .later }
def FnSemSameUptoCardSaid : Prop := Claim7.holds Tryd.pinned (.plain (OpenSpec.upto fnSemSameSpec)) fnSemSameUptoCard

/-- THE SECOND FORM's CARD OF 'laws.FnFormatSem'. -/
def fnFormatSemUptoCard : Claim7 := { stood := { row := fnFormatSemUptoRow, standIns := [], harness := (true, "bb27118996a42594a9d4af82dd095b632bee7e88bb22c7b15f789c9c51551eea"), looks := false }, kinds := [], alts := [], laidByText := true, laidKinds := [.data, .data, .data], laidTests := true, laidLooks := .later }
def FnFormatSemUptoCardSaid : Prop := Claim7.holds Tryd.pinned (.plain (OpenSpec.upto fnFormatSemSpec)) fnFormatSemUptoCard

/-- THE SECOND FORM's CARD OF 'laws.FnSemText'. -/
def fnSemTextUptoCard : Claim7 := { stood := { row := fnSemTextUptoRow, standIns := [], harness := (true, "bb27118996a42594a9d4af82dd095b632bee7e88bb22c7b15f789c9c51551eea"), looks := false }, kinds := [], alts := [], laidByText := true, laidKinds := [.data, .data, .data], laidTests := true, laidLooks := .later }
def FnSemTextUptoCardSaid : Prop := Claim7.holds Tryd.pinned (.plain (OpenSpec.upto fnSemTextSpec)) fnSemTextUptoCard
end Rows
end Go.Proofs.YtcbdpcalmafdiaaDoor
