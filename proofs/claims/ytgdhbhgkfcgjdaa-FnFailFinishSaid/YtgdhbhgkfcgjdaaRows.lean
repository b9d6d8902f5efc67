/-
  No cell of these rows narrows 'for every input' (looked for: loops, veiled, ifaces, maps, wideKeys, modest, calm, conditions, laid).
  DERIVED. THE GIVEN ROWS OF THIS SEAT. 9 by the template 'for every input the law returns true; each argument reads behind the call as it read before'; 0 by the template 'total and deterministic' (their statements: YtgdhbhgkfcgjdaaTotals.lean).
  GIVEN WITH THE SEED: the statements are not yours to turn. If you find one false, say at which input.
  Laid BY PROGRAM, IN A SANDBOX (cutbox-rows.mjs): the forced cells as the released guide's own fill.sh prints them over the translation de9bf7c6533f1b59… (all of the seat's roots in one cut). By AI agents, Wed Nov 11 2026. No macro, syntax, notation, axiom, sorry.
-/
import Derived.Test.YtgdhbhgkfcgjdaaChecked
import GoSem.Claim
import GoSem.ClaimJoined
import GoSem.ClaimMapViews
import Derived.JoinedTies
import Derived.KernelRfl
namespace Go.Proofs.Ytgdhbhgkfcgjdaa
/- THE CELL 'sum', in the pinned program and in every row, IS THE sha256 OF THE DUMP (.gsa) THAT YtgdhbhgkfcgjdaaProg.lean LOADS. Nothing in Lean hashes anything: it is a label: what it is worth is what the hold of that sum in a sandbox is worth. -/
noncomputable def Try.pinned : Pinned := { name := "ytgdhbhgkfcgjdaa", sum := "de9bf7c6533f1b5985e3a1acd5cd142dad9ff5740120c27f3c0fc485e639f2b0", checked := Try.checked }
namespace Rows
def none {H : Type} : Left H := { results := [], args := [] }

/-- 'laws.FnGroupSame': WHATEVER THE INPUT: true; the input reads as it did. -/
def fnGroupSameSpec : ChangeSpec := { name := "fnGroupSame", fn := fun _ => fun
  | [d] => { results := [.lit (.bool true)], args := [d] }
  | _ => none }
def fnGroupSameRow : OpenClaim := { program := "ytgdhbhgkfcgjdaa", sum := "de9bf7c6533f1b5985e3a1acd5cd142dad9ff5740120c27f3c0fc485e639f2b0", func := "loop.example/waitkit/laws.FnGroupSame", spec := "fnGroupSame", apart := false }
def FnGroupSameSaid : Prop := fnGroupSameRow.holds Try.pinned (OpenSpec.ofChange fnGroupSameSpec)

/-- ITS FALSE NEIGHBOUR: 'it returns false'. Refute it at one input. -/
def fnGroupSameWrong : ChangeSpec := { name := "fnGroupSame", fn := fun _ => fun
  | [d] => { results := [.lit (.bool false)], args := [d] }
  | _ => none }
def FnGroupSameWrongFalsely : Prop := fnGroupSameRow.holds Try.pinned (OpenSpec.ofChange fnGroupSameWrong)

/-- 'laws.FnGroupMore': WHATEVER THE INPUT: true; the input reads as it did. -/
def fnGroupMoreSpec : ChangeSpec := { name := "fnGroupMore", fn := fun _ => fun
  | [d] => { results := [.lit (.bool true)], args := [d] }
  | _ => none }
def fnGroupMoreRow : OpenClaim := { program := "ytgdhbhgkfcgjdaa", sum := "de9bf7c6533f1b5985e3a1acd5cd142dad9ff5740120c27f3c0fc485e639f2b0", func := "loop.example/waitkit/laws.FnGroupMore", spec := "fnGroupMore", apart := false }
def FnGroupMoreSaid : Prop := fnGroupMoreRow.holds Try.pinned (OpenSpec.ofChange fnGroupMoreSpec)

/-- ITS FALSE NEIGHBOUR: 'it returns false'. Refute it at one input. -/
def fnGroupMoreWrong : ChangeSpec := { name := "fnGroupMore", fn := fun _ => fun
  | [d] => { results := [.lit (.bool false)], args := [d] }
  | _ => none }
def FnGroupMoreWrongFalsely : Prop := fnGroupMoreRow.holds Try.pinned (OpenSpec.ofChange fnGroupMoreWrong)

/-- 'laws.FnWaitGroup': WHATEVER THE INPUT: true; the input reads as it did. -/
def fnWaitGroupSpec : ChangeSpec := { name := "fnWaitGroup", fn := fun _ => fun
  | [d] => { results := [.lit (.bool true)], args := [d] }
  | _ => none }
def fnWaitGroupRow : OpenClaim := { program := "ytgdhbhgkfcgjdaa", sum := "de9bf7c6533f1b5985e3a1acd5cd142dad9ff5740120c27f3c0fc485e639f2b0", func := "loop.example/waitkit/laws.FnWaitGroup", spec := "fnWaitGroup", apart := false }
def FnWaitGroupSaid : Prop := fnWaitGroupRow.holds Try.pinned (OpenSpec.ofChange fnWaitGroupSpec)

/-- ITS FALSE NEIGHBOUR: 'it returns false'. Refute it at one input. -/
def fnWaitGroupWrong : ChangeSpec := { name := "fnWaitGroup", fn := fun _ => fun
  | [d] => { results := [.lit (.bool false)], args := [d] }
  | _ => none }
def FnWaitGroupWrongFalsely : Prop := fnWaitGroupRow.holds Try.pinned (OpenSpec.ofChange fnWaitGroupWrong)

/-- 'laws.FnAddGroup': WHATEVER THE INPUT: true; the input reads as it did. -/
def fnAddGroupSpec : ChangeSpec := { name := "fnAddGroup", fn := fun _ => fun
  | [d] => { results := [.lit (.bool true)], args := [d] }
  | _ => none }
def fnAddGroupRow : OpenClaim := { program := "ytgdhbhgkfcgjdaa", sum := "de9bf7c6533f1b5985e3a1acd5cd142dad9ff5740120c27f3c0fc485e639f2b0", func := "loop.example/waitkit/laws.FnAddGroup", spec := "fnAddGroup", apart := false }
def FnAddGroupSaid : Prop := fnAddGroupRow.holds Try.pinned (OpenSpec.ofChange fnAddGroupSpec)

/-- ITS FALSE NEIGHBOUR: 'it returns false'. Refute it at one input. -/
def fnAddGroupWrong : ChangeSpec := { name := "fnAddGroup", fn := fun _ => fun
  | [d] => { results := [.lit (.bool false)], args := [d] }
  | _ => none }
def FnAddGroupWrongFalsely : Prop := fnAddGroupRow.holds Try.pinned (OpenSpec.ofChange fnAddGroupWrong)

/-- 'laws.FnGroupSteps': WHATEVER THE INPUT: true; the input reads as it did. -/
def fnGroupStepsSpec : ChangeSpec := { name := "fnGroupSteps", fn := fun _ => fun
  | [d] => { results := [.lit (.bool true)], args := [d] }
  | _ => none }
def fnGroupStepsRow : OpenClaim := { program := "ytgdhbhgkfcgjdaa", sum := "de9bf7c6533f1b5985e3a1acd5cd142dad9ff5740120c27f3c0fc485e639f2b0", func := "loop.example/waitkit/laws.FnGroupSteps", spec := "fnGroupSteps", apart := false }
def FnGroupStepsSaid : Prop := fnGroupStepsRow.holds Try.pinned (OpenSpec.ofChange fnGroupStepsSpec)

/-- ITS FALSE NEIGHBOUR: 'it returns false'. Refute it at one input. -/
def fnGroupStepsWrong : ChangeSpec := { name := "fnGroupSteps", fn := fun _ => fun
  | [d] => { results := [.lit (.bool false)], args := [d] }
  | _ => none }
def FnGroupStepsWrongFalsely : Prop := fnGroupStepsRow.holds Try.pinned (OpenSpec.ofChange fnGroupStepsWrong)

/-- 'laws.FnGroupTwo': WHATEVER THE INPUT: true; the input reads as it did. -/
def fnGroupTwoSpec : ChangeSpec := { name := "fnGroupTwo", fn := fun _ => fun
  | [d] => { results := [.lit (.bool true)], args := [d] }
  | _ => none }
def fnGroupTwoRow : OpenClaim := { program := "ytgdhbhgkfcgjdaa", sum := "de9bf7c6533f1b5985e3a1acd5cd142dad9ff5740120c27f3c0fc485e639f2b0", func := "loop.example/waitkit/laws.FnGroupTwo", spec := "fnGroupTwo", apart := false }
def FnGroupTwoSaid : Prop := fnGroupTwoRow.holds Try.pinned (OpenSpec.ofChange fnGroupTwoSpec)

/-- ITS FALSE NEIGHBOUR: 'it returns false'. Refute it at one input. -/
def fnGroupTwoWrong : ChangeSpec := { name := "fnGroupTwo", fn := fun _ => fun
  | [d] => { results := [.lit (.bool false)], args := [d] }
  | _ => none }
def FnGroupTwoWrongFalsely : Prop := fnGroupTwoRow.holds Try.pinned (OpenSpec.ofChange fnGroupTwoWrong)

/-- 'laws.FnOnceSame': WHATEVER THE INPUT: true; the input reads as it did. -/
def fnOnceSameSpec : ChangeSpec := { name := "fnOnceSame", fn := fun _ => fun
  | [d] => { results := [.lit (.bool true)], args := [d] }
  | _ => none }
def fnOnceSameRow : OpenClaim := { program := "ytgdhbhgkfcgjdaa", sum := "de9bf7c6533f1b5985e3a1acd5cd142dad9ff5740120c27f3c0fc485e639f2b0", func := "loop.example/waitkit/laws.FnOnceSame", spec := "fnOnceSame", apart := false }
def FnOnceSameSaid : Prop := fnOnceSameRow.holds Try.pinned (OpenSpec.ofChange fnOnceSameSpec)

/-- ITS FALSE NEIGHBOUR: 'it returns false'. Refute it at one input. -/
def fnOnceSameWrong : ChangeSpec := { name := "fnOnceSame", fn := fun _ => fun
  | [d] => { results := [.lit (.bool false)], args := [d] }
  | _ => none }
def FnOnceSameWrongFalsely : Prop := fnOnceSameRow.holds Try.pinned (OpenSpec.ofChange fnOnceSameWrong)

/-- 'laws.FnFailFinish': WHATEVER THE INPUT: true; the input reads as it did. -/
def fnFailFinishSpec : ChangeSpec := { name := "fnFailFinish", fn := fun _ => fun
  | [d] => { results := [.lit (.bool true)], args := [d] }
  | _ => none }
def fnFailFinishRow : OpenClaim := { program := "ytgdhbhgkfcgjdaa", sum := "de9bf7c6533f1b5985e3a1acd5cd142dad9ff5740120c27f3c0fc485e639f2b0", func := "loop.example/waitkit/laws.FnFailFinish", spec := "fnFailFinish", apart := false }
def FnFailFinishSaid : Prop := fnFailFinishRow.holds Try.pinned (OpenSpec.ofChange fnFailFinishSpec)

/-- ITS FALSE NEIGHBOUR: 'it returns false'. Refute it at one input. -/
def fnFailFinishWrong : ChangeSpec := { name := "fnFailFinish", fn := fun _ => fun
  | [d] => { results := [.lit (.bool false)], args := [d] }
  | _ => none }
def FnFailFinishWrongFalsely : Prop := fnFailFinishRow.holds Try.pinned (OpenSpec.ofChange fnFailFinishWrong)

/-- 'laws.FnFailOnce': WHATEVER THE INPUT: true; the input reads as it did. -/
def fnFailOnceSpec : ChangeSpec := { name := "fnFailOnce", fn := fun _ => fun
  | [d] => { results := [.lit (.bool true)], args := [d] }
  | _ => none }
def fnFailOnceRow : OpenClaim := { program := "ytgdhbhgkfcgjdaa", sum := "de9bf7c6533f1b5985e3a1acd5cd142dad9ff5740120c27f3c0fc485e639f2b0", func := "loop.example/waitkit/laws.FnFailOnce", spec := "fnFailOnce", apart := false }
def FnFailOnceSaid : Prop := fnFailOnceRow.holds Try.pinned (OpenSpec.ofChange fnFailOnceSpec)

/-- ITS FALSE NEIGHBOUR: 'it returns false'. Refute it at one input. -/
def fnFailOnceWrong : ChangeSpec := { name := "fnFailOnce", fn := fun _ => fun
  | [d] => { results := [.lit (.bool false)], args := [d] }
  | _ => none }
def FnFailOnceWrongFalsely : Prop := fnFailOnceRow.holds Try.pinned (OpenSpec.ofChange fnFailOnceWrong)

/- THE SECOND FORM. 'bulk': how many values and letters a reading holds, each counted each time it is reached (what is shared counts as often as it is met; a slice's spare places count too). A statement '..UptoSaid' is the law's where the arguments, and the package variables that the reading takes, are together of bulk at most 1048576: NARROWER than '..Said'. Prove '..Said' where nothing that the law and all that it calls make is longer than what came in: it says more and counts as full. Else prove '..UptoSaid'. A law counts once. -/
mutual
def uptoBulk {H : Type} : DataW H → Nat
  | .lit (.string bytes) => bytes.length + 1
  | .lit _ => 1
  | .nil => 1
  | .ptr d => uptoBulk d + 1
  | .slice elems spare => uptoBulkAll elems + uptoBulkAll spare + 1
  | .agg parts => uptoBulkAll parts + 1
  | .iface _ d => uptoBulk d + 1
  | .map entries => uptoBulkEntries entries + 1
  | .held _ => 1
def uptoBulkAll {H : Type} : List (DataW H) → Nat
  | [] => 0
  | d :: r => uptoBulk d + uptoBulkAll r
def uptoBulkEntries {H : Type} : List (Lit × DataW H) → Nat
  | [] => 0
  | x :: r => uptoBulkEntry x + uptoBulkEntries r
def uptoBulkEntry {H : Type} : Lit × DataW H → Nat
  | (.string bytes, d) => bytes.length + uptoBulk d + 1
  | (_, d) => uptoBulk d + 1
 end
def uptoSmall : (H : Type) → List (DataW H) → Bool := fun _ ds => decide (uptoBulkAll ds ≤ 1048576)
def OpenSpec.upto (s : _root_.Go.ChangeSpec) : _root_.Go.OpenSpec := { _root_.Go.OpenSpec.ofChange s with cond := some uptoSmall }

/-- 'laws.FnGroupSame', WHERE WHAT IT READS IS OF BULK AT MOST 1048576: true; the input reads as it did. -/
def fnGroupSameUptoRow : OpenClaim := { program := "ytgdhbhgkfcgjdaa", sum := "de9bf7c6533f1b5985e3a1acd5cd142dad9ff5740120c27f3c0fc485e639f2b0", func := "loop.example/waitkit/laws.FnGroupSame", spec := "fnGroupSame", apart := false, narrowed := true }
def FnGroupSameUptoSaid : Prop := fnGroupSameUptoRow.holds Try.pinned (OpenSpec.upto fnGroupSameSpec)

/-- 'laws.FnGroupMore', WHERE WHAT IT READS IS OF BULK AT MOST 1048576: true; the input reads as it did. -/
def fnGroupMoreUptoRow : OpenClaim := { program := "ytgdhbhgkfcgjdaa", sum := "de9bf7c6533f1b5985e3a1acd5cd142dad9ff5740120c27f3c0fc485e639f2b0", func := "loop.example/waitkit/laws.FnGroupMore", spec := "fnGroupMore", apart := false, narrowed := true }
def FnGroupMoreUptoSaid : Prop := fnGroupMoreUptoRow.holds Try.pinned (OpenSpec.upto fnGroupMoreSpec)

/-- 'laws.FnWaitGroup', WHERE WHAT IT READS IS OF BULK AT MOST 1048576: true; the input reads as it did. -/
def fnWaitGroupUptoRow : OpenClaim := { program := "ytgdhbhgkfcgjdaa", sum := "de9bf7c6533f1b5985e3a1acd5cd142dad9ff5740120c27f3c0fc485e639f2b0", func := "loop.example/waitkit/laws.FnWaitGroup", spec := "fnWaitGroup", apart := false, narrowed := true }
def FnWaitGroupUptoSaid : Prop := fnWaitGroupUptoRow.holds Try.pinned (OpenSpec.upto fnWaitGroupSpec)

/-- 'laws.FnAddGroup', WHERE WHAT IT READS IS OF BULK AT MOST 1048576: true; the input reads as it did. -/
def fnAddGroupUptoRow : OpenClaim := { program := "ytgdhbhgkfcgjdaa", sum := "de9bf7c6533f1b5985e3a1acd5cd142dad9ff5740120c27f3c0fc485e639f2b0", func := "loop.example/waitkit/laws.FnAddGroup", spec := "fnAddGroup", apart := false, narrowed := true }
def FnAddGroupUptoSaid : Prop := fnAddGroupUptoRow.holds Try.pinned (OpenSpec.upto fnAddGroupSpec)

/-- 'laws.FnGroupSteps', WHERE WHAT IT READS IS OF BULK AT MOST 1048576: true; the input reads as it did. -/
def fnGroupStepsUptoRow : OpenClaim := { program := "ytgdhbhgkfcgjdaa", sum := "de9bf7c6533f1b5985e3a1acd5cd142dad9ff5740120c27f3c0fc485e639f2b0", func := "loop.example/waitkit/laws.FnGroupSteps", spec := "fnGroupSteps", apart := false, narrowed := true }
def FnGroupStepsUptoSaid : Prop := fnGroupStepsUptoRow.holds Try.pinned (OpenSpec.upto fnGroupStepsSpec)

/-- 'laws.FnGroupTwo', WHERE WHAT IT READS IS OF BULK AT MOST 1048576: true; the input reads as it did. -/
def fnGroupTwoUptoRow : OpenClaim := { program := "ytgdhbhgkfcgjdaa", sum := "de9bf7c6533f1b5985e3a1acd5cd142dad9ff5740120c27f3c0fc485e639f2b0", func := "loop.example/waitkit/laws.FnGroupTwo", spec := "fnGroupTwo", apart := false, narrowed := true }
def FnGroupTwoUptoSaid : Prop := fnGroupTwoUptoRow.holds Try.pinned (OpenSpec.upto fnGroupTwoSpec)

/-- 'laws.FnOnceSame', WHERE WHAT IT READS IS OF BULK AT MOST 1048576: true; the input reads as it did. -/
def fnOnceSameUptoRow : OpenClaim := { program := "ytgdhbhgkfcgjdaa", sum := "de9bf7c6533f1b5985e3a1acd5cd142dad9ff5740120c27f3c0fc485e639f2b0", func := "loop.example/waitkit/laws.FnOnceSame", spec := "fnOnceSame", apart := false, narrowed := true }
def FnOnceSameUptoSaid : Prop := fnOnceSameUptoRow.holds Try.pinned (OpenSpec.upto fnOnceSameSpec)

/-- 'laws.FnFailFinish', WHERE WHAT IT READS IS OF BULK AT MOST 1048576: true; the input reads as it did. -/
def fnFailFinishUptoRow : OpenClaim := { program := "ytgdhbhgkfcgjdaa", sum := "de9bf7c6533f1b5985e3a1acd5cd142dad9ff5740120c27f3c0fc485e639f2b0", func := "loop.example/waitkit/laws.FnFailFinish", spec := "fnFailFinish", apart := false, narrowed := true }
def FnFailFinishUptoSaid : Prop := fnFailFinishUptoRow.holds Try.pinned (OpenSpec.upto fnFailFinishSpec)

/-- 'laws.FnFailOnce', WHERE WHAT IT READS IS OF BULK AT MOST 1048576: true; the input reads as it did. -/
def fnFailOnceUptoRow : OpenClaim := { program := "ytgdhbhgkfcgjdaa", sum := "de9bf7c6533f1b5985e3a1acd5cd142dad9ff5740120c27f3c0fc485e639f2b0", func := "loop.example/waitkit/laws.FnFailOnce", spec := "fnFailOnce", apart := false, narrowed := true }
def FnFailOnceUptoSaid : Prop := fnFailOnceUptoRow.holds Try.pinned (OpenSpec.upto fnFailOnceSpec)

end Rows
end Go.Proofs.Ytgdhbhgkfcgjdaa
