/-
  No cell of these rows narrows 'for every input' (looked for: loops, veiled, ifaces, maps, wideKeys, modest, calm, conditions, laid).
  DERIVED. THE GIVEN ROWS OF THIS SEAT. 4 by the template 'for every input the law returns true; each argument reads behind the call as it read before'; 0 by the template 'total and deterministic' (their statements: YtcbdpcalmafdiaaTotals.lean).
  GIVEN WITH THE SEED: the statements are not yours to turn. If you find one false, say at which input.
  Laid BY PROGRAM, IN A SANDBOX (cutbox-rows.mjs): the forced cells as the released guide's own fill.sh prints them over the translation 1d260ae0f2fe5c32… (all of the seat's roots in one cut). By AI agents, Wed Nov 11 2026. No macro, syntax, notation, axiom, sorry.
-/
import Derived.Test.YtcbdpcalmafdiaaChecked
import GoSem.Claim
import GoSem.ClaimJoined
import GoSem.ClaimMapViews
import Derived.JoinedTies
import Derived.KernelRfl
namespace Go.Proofs.Ytcbdpcalmafdiaa
/- THE CELL 'sum', in the pinned program and in every row, IS THE sha256 OF THE DUMP (.gsa) THAT YtcbdpcalmafdiaaProg.lean LOADS. Nothing in Lean hashes anything: it is a label: what it is worth is what the hold of that sum in a sandbox is worth. -/
noncomputable def Try.pinned : Pinned := { name := "ytcbdpcalmafdiaa", sum := "1d260ae0f2fe5c32e44c338c8c7f172079c766033ef3c6736399abc996a2512a", checked := Try.checked }
namespace Rows
def none {H : Type} : Left H := { results := [], args := [] }

/-- 'laws.FnExactSemSame': WHATEVER THE INPUT: true; the input reads as it did. -/
def fnExactSemSameSpec : ChangeSpec := { name := "fnExactSemSame", fn := fun _ => fun
  | [d1, d2] => { results := [.lit (.bool true)], args := [d1, d2] }
  | _ => none }
def fnExactSemSameRow : OpenClaim := { program := "ytcbdpcalmafdiaa", sum := "1d260ae0f2fe5c32e44c338c8c7f172079c766033ef3c6736399abc996a2512a", func := "loop.example/waitkit/laws.FnExactSemSame", spec := "fnExactSemSame", apart := false }
def FnExactSemSameSaid : Prop := fnExactSemSameRow.holds Try.pinned (OpenSpec.ofChange fnExactSemSameSpec)

/-- ITS FALSE NEIGHBOUR: 'it returns false'. Refute it at one input. -/
def fnExactSemSameWrong : ChangeSpec := { name := "fnExactSemSame", fn := fun _ => fun
  | [d1, d2] => { results := [.lit (.bool false)], args := [d1, d2] }
  | _ => none }
def FnExactSemSameWrongFalsely : Prop := fnExactSemSameRow.holds Try.pinned (OpenSpec.ofChange fnExactSemSameWrong)

/-- 'laws.FnExactSemValid': WHATEVER THE INPUT: true; the input reads as it did. -/
def fnExactSemValidSpec : ChangeSpec := { name := "fnExactSemValid", fn := fun _ => fun
  | [d] => { results := [.lit (.bool true)], args := [d] }
  | _ => none }
def fnExactSemValidRow : OpenClaim := { program := "ytcbdpcalmafdiaa", sum := "1d260ae0f2fe5c32e44c338c8c7f172079c766033ef3c6736399abc996a2512a", func := "loop.example/waitkit/laws.FnExactSemValid", spec := "fnExactSemValid", apart := false }
def FnExactSemValidSaid : Prop := fnExactSemValidRow.holds Try.pinned (OpenSpec.ofChange fnExactSemValidSpec)

/-- ITS FALSE NEIGHBOUR: 'it returns false'. Refute it at one input. -/
def fnExactSemValidWrong : ChangeSpec := { name := "fnExactSemValid", fn := fun _ => fun
  | [d] => { results := [.lit (.bool false)], args := [d] }
  | _ => none }
def FnExactSemValidWrongFalsely : Prop := fnExactSemValidRow.holds Try.pinned (OpenSpec.ofChange fnExactSemValidWrong)

/-- 'laws.FnExactPlaceOf': WHATEVER THE INPUT: true; the input reads as it did. -/
def fnExactPlaceOfSpec : ChangeSpec := { name := "fnExactPlaceOf", fn := fun _ => fun
  | [d1, d2] => { results := [.lit (.bool true)], args := [d1, d2] }
  | _ => none }
def fnExactPlaceOfRow : OpenClaim := { program := "ytcbdpcalmafdiaa", sum := "1d260ae0f2fe5c32e44c338c8c7f172079c766033ef3c6736399abc996a2512a", func := "loop.example/waitkit/laws.FnExactPlaceOf", spec := "fnExactPlaceOf", unfollowed := true, recurses := true, apart := false }
def FnExactPlaceOfSaid : Prop := fnExactPlaceOfRow.holds Try.pinned (OpenSpec.ofChange fnExactPlaceOfSpec)

/-- ITS FALSE NEIGHBOUR: 'it returns false'. Refute it at one input. -/
def fnExactPlaceOfWrong : ChangeSpec := { name := "fnExactPlaceOf", fn := fun _ => fun
  | [d1, d2] => { results := [.lit (.bool false)], args := [d1, d2] }
  | _ => none }
def FnExactPlaceOfWrongFalsely : Prop := fnExactPlaceOfRow.holds Try.pinned (OpenSpec.ofChange fnExactPlaceOfWrong)

/-- 'laws.FnPlaceOf': WHATEVER THE INPUT: true; the input reads as it did. -/
def fnPlaceOfSpec : ChangeSpec := { name := "fnPlaceOf", fn := fun _ => fun
  | [d] => { results := [.lit (.bool true)], args := [d] }
  | _ => none }
def fnPlaceOfRow : OpenClaim := { program := "ytcbdpcalmafdiaa", sum := "1d260ae0f2fe5c32e44c338c8c7f172079c766033ef3c6736399abc996a2512a", func := "loop.example/waitkit/laws.FnPlaceOf", spec := "fnPlaceOf", unfollowed := true, recurses := true, apart := false }
def FnPlaceOfSaid : Prop := fnPlaceOfRow.holds Try.pinned (OpenSpec.ofChange fnPlaceOfSpec)

/-- ITS FALSE NEIGHBOUR: 'it returns false'. Refute it at one input. -/
def fnPlaceOfWrong : ChangeSpec := { name := "fnPlaceOf", fn := fun _ => fun
  | [d] => { results := [.lit (.bool false)], args := [d] }
  | _ => none }
def FnPlaceOfWrongFalsely : Prop := fnPlaceOfRow.holds Try.pinned (OpenSpec.ofChange fnPlaceOfWrong)

/- THE SECOND FORM. 'bulk': how many values and letters a reading holds, each counted each time it is reached (what is shared counts as often as it is met; a slice's spare places count too). A statement '..UptoSaid' is the law's where the arguments, and the package variables that the reading takes, are together of bulk at most 1048576: NARROWER than '..Said'. Prove '..Said' where nothing that the law and all that it calls make is longer than what came in: it says more and counts as full. Else prove '..UptoSaid'. A law counts once. -/
mutual
def uptoBulk {H : Type} : DataW H → Nat
  | .lit (.string bytes) => bytes.length + 1
  | .lit _ => 1
  | .nil => 1
  | .ptr d => uptoBulk d + 1
  | .slice elems spare => uptoBulkAll elems + uptoBulkAll spare + 1
  | .agg parts => uptoBulkAll parts + 1
  | .iface _ d => uptoBulk d + 1
  | .map entries => uptoBulkEntries entries + 1
  | .held _ => 1
def uptoBulkAll {H : Type} : List (DataW H) → Nat
  | [] => 0
  | d :: r => uptoBulk d + uptoBulkAll r
def uptoBulkEntries {H : Type} : List (Lit × DataW H) → Nat
  | [] => 0
  | x :: r => uptoBulkEntry x + uptoBulkEntries r
def uptoBulkEntry {H : Type} : Lit × DataW H → Nat
  | (.string bytes, d) => bytes.length + uptoBulk d + 1
  | (_, d) => uptoBulk d + 1
 end
def uptoSmall : (H : Type) → List (DataW H) → Bool := fun _ ds => decide (uptoBulkAll ds ≤ 1048576)
def OpenSpec.upto (s : _root_.Go.ChangeSpec) : _root_.Go.OpenSpec := { _root_.Go.OpenSpec.ofChange s with cond := some uptoSmall }

/-- 'laws.FnExactSemSame', WHERE WHAT IT READS IS OF BULK AT MOST 1048576: true; the input reads as it did. -/
def fnExactSemSameUptoRow : OpenClaim := { program := "ytcbdpcalmafdiaa", sum := "1d260ae0f2fe5c32e44c338c8c7f172079c766033ef3c6736399abc996a2512a", func := "loop.example/waitkit/laws.FnExactSemSame", spec := "fnExactSemSame", apart := false, narrowed := true }
def FnExactSemSameUptoSaid : Prop := fnExactSemSameUptoRow.holds Try.pinned (OpenSpec.upto fnExactSemSameSpec)

/-- 'laws.FnExactSemValid', WHERE WHAT IT READS IS OF BULK AT MOST 1048576: true; the input reads as it did. -/
def fnExactSemValidUptoRow : OpenClaim := { program := "ytcbdpcalmafdiaa", sum := "1d260ae0f2fe5c32e44c338c8c7f172079c766033ef3c6736399abc996a2512a", func := "loop.example/waitkit/laws.FnExactSemValid", spec := "fnExactSemValid", apart := false, narrowed := true }
def FnExactSemValidUptoSaid : Prop := fnExactSemValidUptoRow.holds Try.pinned (OpenSpec.upto fnExactSemValidSpec)

/-- 'laws.FnExactPlaceOf', WHERE WHAT IT READS IS OF BULK AT MOST 1048576: true; the input reads as it did. -/
def fnExactPlaceOfUptoRow : OpenClaim := { program := "ytcbdpcalmafdiaa", sum := "1d260ae0f2fe5c32e44c338c8c7f172079c766033ef3c6736399abc996a2512a", func := "loop.example/waitkit/laws.FnExactPlaceOf", spec := "fnExactPlaceOf", unfollowed := true, recurses := true, apart := false, narrowed := true }
def FnExactPlaceOfUptoSaid : Prop := fnExactPlaceOfUptoRow.holds Try.pinned (OpenSpec.upto fnExactPlaceOfSpec)

/-- 'laws.FnPlaceOf', WHERE WHAT IT READS IS OF BULK AT MOST 1048576: true; the input reads as it did. -/
def fnPlaceOfUptoRow : OpenClaim := { program := "ytcbdpcalmafdiaa", sum := "1d260ae0f2fe5c32e44c338c8c7f172079c766033ef3c6736399abc996a2512a", func := "loop.example/waitkit/laws.FnPlaceOf", spec := "fnPlaceOf", unfollowed := true, recurses := true, apart := false, narrowed := true }
def FnPlaceOfUptoSaid : Prop := fnPlaceOfUptoRow.holds Try.pinned (OpenSpec.upto fnPlaceOfSpec)

end Rows
end Go.Proofs.Ytcbdpcalmafdiaa
