/-
  No cell of these rows narrows 'for every input' (looked for: loops, veiled, ifaces, maps, wideKeys, modest, calm, conditions, laid).
  DERIVED. THE GIVEN ROWS OF THIS SEAT. 9 by the template 'for every input the law returns true; each argument reads behind the call as it read before'; 0 by the template 'total and deterministic' (their statements: YtkglngcopflgeaaTotals.lean).
  GIVEN WITH THE SEED: the statements are not yours to turn. If you find one false, say at which input.
  Laid BY PROGRAM, IN A SANDBOX (cutbox-rows.mjs): the forced cells as the released guide's own fill.sh prints them over the translation c7e8f1130f3e50ab… (all of the seat's roots in one cut). By AI agents, Wed Nov 11 2026. No macro, syntax, notation, axiom, sorry.
-/
import Derived.Test.YtkglngcopflgeaaChecked
import GoSem.Claim
import GoSem.ClaimJoined
import GoSem.ClaimMapViews
import Derived.JoinedTies
import Derived.KernelRfl
namespace Go.Proofs.Ytkglngcopflgeaa
/- THE CELL 'sum', in the pinned program and in every row, IS THE sha256 OF THE DUMP (.gsa) THAT YtkglngcopflgeaaProg.lean LOADS. Nothing in Lean hashes anything: it is a label: what it is worth is what the hold of that sum in a sandbox is worth. -/
noncomputable def Try.pinned : Pinned := { name := "ytkglngcopflgeaa", sum := "c7e8f1130f3e50abe361bc2ee12bd3c75c595d625302576cfc55f66f734df8da", checked := Try.checked }
namespace Rows
def none {H : Type} : Left H := { results := [], args := [] }

/-- 'laws.FnBarrierRounds': WHATEVER THE INPUT: true; the input reads as it did. -/
def fnBarrierRoundsSpec : ChangeSpec := { name := "fnBarrierRounds", fn := fun _ => fun
  | [d] => { results := [.lit (.bool true)], args := [d] }
  | _ => none }
def fnBarrierRoundsRow : OpenClaim := { program := "ytkglngcopflgeaa", sum := "c7e8f1130f3e50abe361bc2ee12bd3c75c595d625302576cfc55f66f734df8da", func := "loop.example/waitkit/laws.FnBarrierRounds", spec := "fnBarrierRounds", apart := false }
def FnBarrierRoundsSaid : Prop := fnBarrierRoundsRow.holds Try.pinned (OpenSpec.ofChange fnBarrierRoundsSpec)

/-- ITS FALSE NEIGHBOUR: 'it returns false'. Refute it at one input. -/
def fnBarrierRoundsWrong : ChangeSpec := { name := "fnBarrierRounds", fn := fun _ => fun
  | [d] => { results := [.lit (.bool false)], args := [d] }
  | _ => none }
def FnBarrierRoundsWrongFalsely : Prop := fnBarrierRoundsRow.holds Try.pinned (OpenSpec.ofChange fnBarrierRoundsWrong)

/-- 'laws.FnCondFew': WHATEVER THE INPUT: true; the input reads as it did. -/
def fnCondFewSpec : ChangeSpec := { name := "fnCondFew", fn := fun _ => fun
  | [d] => { results := [.lit (.bool true)], args := [d] }
  | _ => none }
def fnCondFewRow : OpenClaim := { program := "ytkglngcopflgeaa", sum := "c7e8f1130f3e50abe361bc2ee12bd3c75c595d625302576cfc55f66f734df8da", func := "loop.example/waitkit/laws.FnCondFew", spec := "fnCondFew", apart := false }
def FnCondFewSaid : Prop := fnCondFewRow.holds Try.pinned (OpenSpec.ofChange fnCondFewSpec)

/-- ITS FALSE NEIGHBOUR: 'it returns false'. Refute it at one input. -/
def fnCondFewWrong : ChangeSpec := { name := "fnCondFew", fn := fun _ => fun
  | [d] => { results := [.lit (.bool false)], args := [d] }
  | _ => none }
def FnCondFewWrongFalsely : Prop := fnCondFewRow.holds Try.pinned (OpenSpec.ofChange fnCondFewWrong)

/-- 'laws.FnTellAll': WHATEVER THE INPUT: true; the input reads as it did. -/
def fnTellAllSpec : ChangeSpec := { name := "fnTellAll", fn := fun _ => fun
  | [d] => { results := [.lit (.bool true)], args := [d] }
  | _ => none }
def fnTellAllRow : OpenClaim := { program := "ytkglngcopflgeaa", sum := "c7e8f1130f3e50abe361bc2ee12bd3c75c595d625302576cfc55f66f734df8da", func := "loop.example/waitkit/laws.FnTellAll", spec := "fnTellAll", apart := false }
def FnTellAllSaid : Prop := fnTellAllRow.holds Try.pinned (OpenSpec.ofChange fnTellAllSpec)

/-- ITS FALSE NEIGHBOUR: 'it returns false'. Refute it at one input. -/
def fnTellAllWrong : ChangeSpec := { name := "fnTellAll", fn := fun _ => fun
  | [d] => { results := [.lit (.bool false)], args := [d] }
  | _ => none }
def FnTellAllWrongFalsely : Prop := fnTellAllRow.holds Try.pinned (OpenSpec.ofChange fnTellAllWrong)

/-- 'laws.FnTellTwice': WHATEVER THE INPUT: true; the input reads as it did. -/
def fnTellTwiceSpec : ChangeSpec := { name := "fnTellTwice", fn := fun _ => fun
  | [d] => { results := [.lit (.bool true)], args := [d] }
  | _ => none }
def fnTellTwiceRow : OpenClaim := { program := "ytkglngcopflgeaa", sum := "c7e8f1130f3e50abe361bc2ee12bd3c75c595d625302576cfc55f66f734df8da", func := "loop.example/waitkit/laws.FnTellTwice", spec := "fnTellTwice", apart := false }
def FnTellTwiceSaid : Prop := fnTellTwiceRow.holds Try.pinned (OpenSpec.ofChange fnTellTwiceSpec)

/-- ITS FALSE NEIGHBOUR: 'it returns false'. Refute it at one input. -/
def fnTellTwiceWrong : ChangeSpec := { name := "fnTellTwice", fn := fun _ => fun
  | [d] => { results := [.lit (.bool false)], args := [d] }
  | _ => none }
def FnTellTwiceWrongFalsely : Prop := fnTellTwiceRow.holds Try.pinned (OpenSpec.ofChange fnTellTwiceWrong)

/-- 'laws.FnTellOne': WHATEVER THE INPUT: true; the input reads as it did. -/
def fnTellOneSpec : ChangeSpec := { name := "fnTellOne", fn := fun _ => fun
  | [d] => { results := [.lit (.bool true)], args := [d] }
  | _ => none }
def fnTellOneRow : OpenClaim := { program := "ytkglngcopflgeaa", sum := "c7e8f1130f3e50abe361bc2ee12bd3c75c595d625302576cfc55f66f734df8da", func := "loop.example/waitkit/laws.FnTellOne", spec := "fnTellOne", apart := false }
def FnTellOneSaid : Prop := fnTellOneRow.holds Try.pinned (OpenSpec.ofChange fnTellOneSpec)

/-- ITS FALSE NEIGHBOUR: 'it returns false'. Refute it at one input. -/
def fnTellOneWrong : ChangeSpec := { name := "fnTellOne", fn := fun _ => fun
  | [d] => { results := [.lit (.bool false)], args := [d] }
  | _ => none }
def FnTellOneWrongFalsely : Prop := fnTellOneRow.holds Try.pinned (OpenSpec.ofChange fnTellOneWrong)

/-- 'laws.FnNewBarrier': WHATEVER THE INPUT: true; the input reads as it did. -/
def fnNewBarrierSpec : ChangeSpec := { name := "fnNewBarrier", fn := fun _ => fun
  | [d] => { results := [.lit (.bool true)], args := [d] }
  | _ => none }
def fnNewBarrierRow : OpenClaim := { program := "ytkglngcopflgeaa", sum := "c7e8f1130f3e50abe361bc2ee12bd3c75c595d625302576cfc55f66f734df8da", func := "loop.example/waitkit/laws.FnNewBarrier", spec := "fnNewBarrier", apart := false }
def FnNewBarrierSaid : Prop := fnNewBarrierRow.holds Try.pinned (OpenSpec.ofChange fnNewBarrierSpec)

/-- ITS FALSE NEIGHBOUR: 'it returns false'. Refute it at one input. -/
def fnNewBarrierWrong : ChangeSpec := { name := "fnNewBarrier", fn := fun _ => fun
  | [d] => { results := [.lit (.bool false)], args := [d] }
  | _ => none }
def FnNewBarrierWrongFalsely : Prop := fnNewBarrierRow.holds Try.pinned (OpenSpec.ofChange fnNewBarrierWrong)

/-- 'laws.FnWaitCond': WHATEVER THE INPUT: true; the input reads as it did. -/
def fnWaitCondSpec : ChangeSpec := { name := "fnWaitCond", fn := fun _ => fun
  | [d] => { results := [.lit (.bool true)], args := [d] }
  | _ => none }
def fnWaitCondRow : OpenClaim := { program := "ytkglngcopflgeaa", sum := "c7e8f1130f3e50abe361bc2ee12bd3c75c595d625302576cfc55f66f734df8da", func := "loop.example/waitkit/laws.FnWaitCond", spec := "fnWaitCond", apart := false }
def FnWaitCondSaid : Prop := fnWaitCondRow.holds Try.pinned (OpenSpec.ofChange fnWaitCondSpec)

/-- ITS FALSE NEIGHBOUR: 'it returns false'. Refute it at one input. -/
def fnWaitCondWrong : ChangeSpec := { name := "fnWaitCond", fn := fun _ => fun
  | [d] => { results := [.lit (.bool false)], args := [d] }
  | _ => none }
def FnWaitCondWrongFalsely : Prop := fnWaitCondRow.holds Try.pinned (OpenSpec.ofChange fnWaitCondWrong)

/-- 'laws.FnArrive': WHATEVER THE INPUT: true; the input reads as it did. -/
def fnArriveSpec : ChangeSpec := { name := "fnArrive", fn := fun _ => fun
  | [d] => { results := [.lit (.bool true)], args := [d] }
  | _ => none }
def fnArriveRow : OpenClaim := { program := "ytkglngcopflgeaa", sum := "c7e8f1130f3e50abe361bc2ee12bd3c75c595d625302576cfc55f66f734df8da", func := "loop.example/waitkit/laws.FnArrive", spec := "fnArrive", apart := false }
def FnArriveSaid : Prop := fnArriveRow.holds Try.pinned (OpenSpec.ofChange fnArriveSpec)

/-- ITS FALSE NEIGHBOUR: 'it returns false'. Refute it at one input. -/
def fnArriveWrong : ChangeSpec := { name := "fnArrive", fn := fun _ => fun
  | [d] => { results := [.lit (.bool false)], args := [d] }
  | _ => none }
def FnArriveWrongFalsely : Prop := fnArriveRow.holds Try.pinned (OpenSpec.ofChange fnArriveWrong)

/-- 'laws.FnArriveTwice': WHATEVER THE INPUT: true; the input reads as it did. -/
def fnArriveTwiceSpec : ChangeSpec := { name := "fnArriveTwice", fn := fun _ => fun
  | [d] => { results := [.lit (.bool true)], args := [d] }
  | _ => none }
def fnArriveTwiceRow : OpenClaim := { program := "ytkglngcopflgeaa", sum := "c7e8f1130f3e50abe361bc2ee12bd3c75c595d625302576cfc55f66f734df8da", func := "loop.example/waitkit/laws.FnArriveTwice", spec := "fnArriveTwice", apart := false }
def FnArriveTwiceSaid : Prop := fnArriveTwiceRow.holds Try.pinned (OpenSpec.ofChange fnArriveTwiceSpec)

/-- ITS FALSE NEIGHBOUR: 'it returns false'. Refute it at one input. -/
def fnArriveTwiceWrong : ChangeSpec := { name := "fnArriveTwice", fn := fun _ => fun
  | [d] => { results := [.lit (.bool false)], args := [d] }
  | _ => none }
def FnArriveTwiceWrongFalsely : Prop := fnArriveTwiceRow.holds Try.pinned (OpenSpec.ofChange fnArriveTwiceWrong)

/- THE SECOND FORM. 'bulk': how many values and letters a reading holds, each counted each time it is reached (what is shared counts as often as it is met; a slice's spare places count too). A statement '..UptoSaid' is the law's where the arguments, and the package variables that the reading takes, are together of bulk at most 1048576: NARROWER than '..Said'. Prove '..Said' where nothing that the law and all that it calls make is longer than what came in: it says more and counts as full. Else prove '..UptoSaid'. A law counts once. -/
mutual
def uptoBulk {H : Type} : DataW H → Nat
  | .lit (.string bytes) => bytes.length + 1
  | .lit _ => 1
  | .nil => 1
  | .ptr d => uptoBulk d + 1
  | .slice elems spare => uptoBulkAll elems + uptoBulkAll spare + 1
  | .agg parts => uptoBulkAll parts + 1
  | .iface _ d => uptoBulk d + 1
  | .map entries => uptoBulkEntries entries + 1
  | .held _ => 1
def uptoBulkAll {H : Type} : List (DataW H) → Nat
  | [] => 0
  | d :: r => uptoBulk d + uptoBulkAll r
def uptoBulkEntries {H : Type} : List (Lit × DataW H) → Nat
  | [] => 0
  | x :: r => uptoBulkEntry x + uptoBulkEntries r
def uptoBulkEntry {H : Type} : Lit × DataW H → Nat
  | (.string bytes, d) => bytes.length + uptoBulk d + 1
  | (_, d) => uptoBulk d + 1
 end
def uptoSmall : (H : Type) → List (DataW H) → Bool := fun _ ds => decide (uptoBulkAll ds ≤ 1048576)
def OpenSpec.upto (s : _root_.Go.ChangeSpec) : _root_.Go.OpenSpec := { _root_.Go.OpenSpec.ofChange s with cond := some uptoSmall }

/-- 'laws.FnBarrierRounds', WHERE WHAT IT READS IS OF BULK AT MOST 1048576: true; the input reads as it did. -/
def fnBarrierRoundsUptoRow : OpenClaim := { program := "ytkglngcopflgeaa", sum := "c7e8f1130f3e50abe361bc2ee12bd3c75c595d625302576cfc55f66f734df8da", func := "loop.example/waitkit/laws.FnBarrierRounds", spec := "fnBarrierRounds", apart := false, narrowed := true }
def FnBarrierRoundsUptoSaid : Prop := fnBarrierRoundsUptoRow.holds Try.pinned (OpenSpec.upto fnBarrierRoundsSpec)

/-- 'laws.FnCondFew', WHERE WHAT IT READS IS OF BULK AT MOST 1048576: true; the input reads as it did. -/
def fnCondFewUptoRow : OpenClaim := { program := "ytkglngcopflgeaa", sum := "c7e8f1130f3e50abe361bc2ee12bd3c75c595d625302576cfc55f66f734df8da", func := "loop.example/waitkit/laws.FnCondFew", spec := "fnCondFew", apart := false, narrowed := true }
def FnCondFewUptoSaid : Prop := fnCondFewUptoRow.holds Try.pinned (OpenSpec.upto fnCondFewSpec)

/-- 'laws.FnTellAll', WHERE WHAT IT READS IS OF BULK AT MOST 1048576: true; the input reads as it did. -/
def fnTellAllUptoRow : OpenClaim := { program := "ytkglngcopflgeaa", sum := "c7e8f1130f3e50abe361bc2ee12bd3c75c595d625302576cfc55f66f734df8da", func := "loop.example/waitkit/laws.FnTellAll", spec := "fnTellAll", apart := false, narrowed := true }
def FnTellAllUptoSaid : Prop := fnTellAllUptoRow.holds Try.pinned (OpenSpec.upto fnTellAllSpec)

/-- 'laws.FnTellTwice', WHERE WHAT IT READS IS OF BULK AT MOST 1048576: true; the input reads as it did. -/
def fnTellTwiceUptoRow : OpenClaim := { program := "ytkglngcopflgeaa", sum := "c7e8f1130f3e50abe361bc2ee12bd3c75c595d625302576cfc55f66f734df8da", func := "loop.example/waitkit/laws.FnTellTwice", spec := "fnTellTwice", apart := false, narrowed := true }
def FnTellTwiceUptoSaid : Prop := fnTellTwiceUptoRow.holds Try.pinned (OpenSpec.upto fnTellTwiceSpec)

/-- 'laws.FnTellOne', WHERE WHAT IT READS IS OF BULK AT MOST 1048576: true; the input reads as it did. -/
def fnTellOneUptoRow : OpenClaim := { program := "ytkglngcopflgeaa", sum := "c7e8f1130f3e50abe361bc2ee12bd3c75c595d625302576cfc55f66f734df8da", func := "loop.example/waitkit/laws.FnTellOne", spec := "fnTellOne", apart := false, narrowed := true }
def FnTellOneUptoSaid : Prop := fnTellOneUptoRow.holds Try.pinned (OpenSpec.upto fnTellOneSpec)

/-- 'laws.FnNewBarrier', WHERE WHAT IT READS IS OF BULK AT MOST 1048576: true; the input reads as it did. -/
def fnNewBarrierUptoRow : OpenClaim := { program := "ytkglngcopflgeaa", sum := "c7e8f1130f3e50abe361bc2ee12bd3c75c595d625302576cfc55f66f734df8da", func := "loop.example/waitkit/laws.FnNewBarrier", spec := "fnNewBarrier", apart := false, narrowed := true }
def FnNewBarrierUptoSaid : Prop := fnNewBarrierUptoRow.holds Try.pinned (OpenSpec.upto fnNewBarrierSpec)

/-- 'laws.FnWaitCond', WHERE WHAT IT READS IS OF BULK AT MOST 1048576: true; the input reads as it did. -/
def fnWaitCondUptoRow : OpenClaim := { program := "ytkglngcopflgeaa", sum := "c7e8f1130f3e50abe361bc2ee12bd3c75c595d625302576cfc55f66f734df8da", func := "loop.example/waitkit/laws.FnWaitCond", spec := "fnWaitCond", apart := false, narrowed := true }
def FnWaitCondUptoSaid : Prop := fnWaitCondUptoRow.holds Try.pinned (OpenSpec.upto fnWaitCondSpec)

/-- 'laws.FnArrive', WHERE WHAT IT READS IS OF BULK AT MOST 1048576: true; the input reads as it did. -/
def fnArriveUptoRow : OpenClaim := { program := "ytkglngcopflgeaa", sum := "c7e8f1130f3e50abe361bc2ee12bd3c75c595d625302576cfc55f66f734df8da", func := "loop.example/waitkit/laws.FnArrive", spec := "fnArrive", apart := false, narrowed := true }
def FnArriveUptoSaid : Prop := fnArriveUptoRow.holds Try.pinned (OpenSpec.upto fnArriveSpec)

/-- 'laws.FnArriveTwice', WHERE WHAT IT READS IS OF BULK AT MOST 1048576: true; the input reads as it did. -/
def fnArriveTwiceUptoRow : OpenClaim := { program := "ytkglngcopflgeaa", sum := "c7e8f1130f3e50abe361bc2ee12bd3c75c595d625302576cfc55f66f734df8da", func := "loop.example/waitkit/laws.FnArriveTwice", spec := "fnArriveTwice", apart := false, narrowed := true }
def FnArriveTwiceUptoSaid : Prop := fnArriveTwiceUptoRow.holds Try.pinned (OpenSpec.upto fnArriveTwiceSpec)

end Rows
end Go.Proofs.Ytkglngcopflgeaa
