/-
  No cell of these rows narrows 'for every input' (looked for: loops, veiled, ifaces, maps, wideKeys, modest, calm, conditions, laid).
  DERIVED. THE GIVEN ROWS OF THIS SEAT. 10 by the template 'for every input the law returns true; each argument reads behind the call as it read before'; 0 by the template 'total and deterministic' (their statements: YtaoeacclkekokaaTotals.lean).
  GIVEN WITH THE SEED: the statements are not yours to turn. If you find one false, say at which input.
  Laid BY PROGRAM, IN A SANDBOX (cutbox-rows.mjs): the forced cells as the released guide's own fill.sh prints them over the translation 2a878a2441286f43… (all of the seat's roots in one cut). By AI agents, Wed Nov 11 2026. No macro, syntax, notation, axiom, sorry.
-/
import Derived.Test.YtaoeacclkekokaaChecked
import GoSem.Claim
import GoSem.ClaimJoined
import GoSem.ClaimMapViews
import Derived.JoinedTies
import Derived.KernelRfl
namespace Go.Proofs.Ytaoeacclkekokaa
/- THE CELL 'sum', in the pinned program and in every row, IS THE sha256 OF THE DUMP (.gsa) THAT YtaoeacclkekokaaProg.lean LOADS. Nothing in Lean hashes anything: it is a label: what it is worth is what the hold of that sum in a sandbox is worth. -/
noncomputable def Try.pinned : Pinned := { name := "ytaoeacclkekokaa", sum := "2a878a2441286f439d731d11e90164fd9f776dce4aab34159480dd7dc2643fe3", checked := Try.checked }
namespace Rows
def none {H : Type} : Left H := { results := [], args := [] }

/-- 'laws.FnExactConstants': WHATEVER THE INPUT: true; the input reads as it did. -/
def fnExactConstantsSpec : ChangeSpec := { name := "fnExactConstants", fn := fun _ => fun
  | [] => { results := [.lit (.bool true)], args := [] }
  | _ => none }
def fnExactConstantsRow : OpenClaim := { program := "ytaoeacclkekokaa", sum := "2a878a2441286f439d731d11e90164fd9f776dce4aab34159480dd7dc2643fe3", func := "loop.example/waitkit/laws.FnExactConstants", spec := "fnExactConstants", apart := false }
def FnExactConstantsSaid : Prop := fnExactConstantsRow.holds Try.pinned (OpenSpec.ofChange fnExactConstantsSpec)

/-- ITS FALSE NEIGHBOUR: 'it returns false'. Refute it at one input. -/
def fnExactConstantsWrong : ChangeSpec := { name := "fnExactConstants", fn := fun _ => fun
  | [] => { results := [.lit (.bool false)], args := [] }
  | _ => none }
def FnExactConstantsWrongFalsely : Prop := fnExactConstantsRow.holds Try.pinned (OpenSpec.ofChange fnExactConstantsWrong)

/-- 'laws.FnExactNewSem': WHATEVER THE INPUT: true; the input reads as it did. -/
def fnExactNewSemSpec : ChangeSpec := { name := "fnExactNewSem", fn := fun _ => fun
  | [d] => { results := [.lit (.bool true)], args := [d] }
  | _ => none }
def fnExactNewSemRow : OpenClaim := { program := "ytaoeacclkekokaa", sum := "2a878a2441286f439d731d11e90164fd9f776dce4aab34159480dd7dc2643fe3", func := "loop.example/waitkit/laws.FnExactNewSem", spec := "fnExactNewSem", apart := false }
def FnExactNewSemSaid : Prop := fnExactNewSemRow.holds Try.pinned (OpenSpec.ofChange fnExactNewSemSpec)

/-- ITS FALSE NEIGHBOUR: 'it returns false'. Refute it at one input. -/
def fnExactNewSemWrong : ChangeSpec := { name := "fnExactNewSem", fn := fun _ => fun
  | [d] => { results := [.lit (.bool false)], args := [d] }
  | _ => none }
def FnExactNewSemWrongFalsely : Prop := fnExactNewSemRow.holds Try.pinned (OpenSpec.ofChange fnExactNewSemWrong)

/-- 'laws.FnExactNewLock': WHATEVER THE INPUT: true; the input reads as it did. -/
def fnExactNewLockSpec : ChangeSpec := { name := "fnExactNewLock", fn := fun _ => fun
  | [] => { results := [.lit (.bool true)], args := [] }
  | _ => none }
def fnExactNewLockRow : OpenClaim := { program := "ytaoeacclkekokaa", sum := "2a878a2441286f439d731d11e90164fd9f776dce4aab34159480dd7dc2643fe3", func := "loop.example/waitkit/laws.FnExactNewLock", spec := "fnExactNewLock", apart := false }
def FnExactNewLockSaid : Prop := fnExactNewLockRow.holds Try.pinned (OpenSpec.ofChange fnExactNewLockSpec)

/-- ITS FALSE NEIGHBOUR: 'it returns false'. Refute it at one input. -/
def fnExactNewLockWrong : ChangeSpec := { name := "fnExactNewLock", fn := fun _ => fun
  | [] => { results := [.lit (.bool false)], args := [] }
  | _ => none }
def FnExactNewLockWrongFalsely : Prop := fnExactNewLockRow.holds Try.pinned (OpenSpec.ofChange fnExactNewLockWrong)

/-- 'laws.FnExactNewBarrier': WHATEVER THE INPUT: true; the input reads as it did. -/
def fnExactNewBarrierSpec : ChangeSpec := { name := "fnExactNewBarrier", fn := fun _ => fun
  | [d] => { results := [.lit (.bool true)], args := [d] }
  | _ => none }
def fnExactNewBarrierRow : OpenClaim := { program := "ytaoeacclkekokaa", sum := "2a878a2441286f439d731d11e90164fd9f776dce4aab34159480dd7dc2643fe3", func := "loop.example/waitkit/laws.FnExactNewBarrier", spec := "fnExactNewBarrier", apart := false }
def FnExactNewBarrierSaid : Prop := fnExactNewBarrierRow.holds Try.pinned (OpenSpec.ofChange fnExactNewBarrierSpec)

/-- ITS FALSE NEIGHBOUR: 'it returns false'. Refute it at one input. -/
def fnExactNewBarrierWrong : ChangeSpec := { name := "fnExactNewBarrier", fn := fun _ => fun
  | [d] => { results := [.lit (.bool false)], args := [d] }
  | _ => none }
def FnExactNewBarrierWrongFalsely : Prop := fnExactNewBarrierRow.holds Try.pinned (OpenSpec.ofChange fnExactNewBarrierWrong)

/-- 'laws.FnExactCondValid': WHATEVER THE INPUT: true; the input reads as it did. -/
def fnExactCondValidSpec : ChangeSpec := { name := "fnExactCondValid", fn := fun _ => fun
  | [d] => { results := [.lit (.bool true)], args := [d] }
  | _ => none }
def fnExactCondValidRow : OpenClaim := { program := "ytaoeacclkekokaa", sum := "2a878a2441286f439d731d11e90164fd9f776dce4aab34159480dd7dc2643fe3", func := "loop.example/waitkit/laws.FnExactCondValid", spec := "fnExactCondValid", apart := false }
def FnExactCondValidSaid : Prop := fnExactCondValidRow.holds Try.pinned (OpenSpec.ofChange fnExactCondValidSpec)

/-- ITS FALSE NEIGHBOUR: 'it returns false'. Refute it at one input. -/
def fnExactCondValidWrong : ChangeSpec := { name := "fnExactCondValid", fn := fun _ => fun
  | [d] => { results := [.lit (.bool false)], args := [d] }
  | _ => none }
def FnExactCondValidWrongFalsely : Prop := fnExactCondValidRow.holds Try.pinned (OpenSpec.ofChange fnExactCondValidWrong)

/-- 'laws.FnExactBarrierValid': WHATEVER THE INPUT: true; the input reads as it did. -/
def fnExactBarrierValidSpec : ChangeSpec := { name := "fnExactBarrierValid", fn := fun _ => fun
  | [d] => { results := [.lit (.bool true)], args := [d] }
  | _ => none }
def fnExactBarrierValidRow : OpenClaim := { program := "ytaoeacclkekokaa", sum := "2a878a2441286f439d731d11e90164fd9f776dce4aab34159480dd7dc2643fe3", func := "loop.example/waitkit/laws.FnExactBarrierValid", spec := "fnExactBarrierValid", apart := false }
def FnExactBarrierValidSaid : Prop := fnExactBarrierValidRow.holds Try.pinned (OpenSpec.ofChange fnExactBarrierValidSpec)

/-- ITS FALSE NEIGHBOUR: 'it returns false'. Refute it at one input. -/
def fnExactBarrierValidWrong : ChangeSpec := { name := "fnExactBarrierValid", fn := fun _ => fun
  | [d] => { results := [.lit (.bool false)], args := [d] }
  | _ => none }
def FnExactBarrierValidWrongFalsely : Prop := fnExactBarrierValidRow.holds Try.pinned (OpenSpec.ofChange fnExactBarrierValidWrong)

/-- 'laws.FnExactTellAll': WHATEVER THE INPUT: true; the input reads as it did. -/
def fnExactTellAllSpec : ChangeSpec := { name := "fnExactTellAll", fn := fun _ => fun
  | [d] => { results := [.lit (.bool true)], args := [d] }
  | _ => none }
def fnExactTellAllRow : OpenClaim := { program := "ytaoeacclkekokaa", sum := "2a878a2441286f439d731d11e90164fd9f776dce4aab34159480dd7dc2643fe3", func := "loop.example/waitkit/laws.FnExactTellAll", spec := "fnExactTellAll", apart := false }
def FnExactTellAllSaid : Prop := fnExactTellAllRow.holds Try.pinned (OpenSpec.ofChange fnExactTellAllSpec)

/-- ITS FALSE NEIGHBOUR: 'it returns false'. Refute it at one input. -/
def fnExactTellAllWrong : ChangeSpec := { name := "fnExactTellAll", fn := fun _ => fun
  | [d] => { results := [.lit (.bool false)], args := [d] }
  | _ => none }
def FnExactTellAllWrongFalsely : Prop := fnExactTellAllRow.holds Try.pinned (OpenSpec.ofChange fnExactTellAllWrong)

/-- 'laws.FnExactTellOne': WHATEVER THE INPUT: true; the input reads as it did. -/
def fnExactTellOneSpec : ChangeSpec := { name := "fnExactTellOne", fn := fun _ => fun
  | [d] => { results := [.lit (.bool true)], args := [d] }
  | _ => none }
def fnExactTellOneRow : OpenClaim := { program := "ytaoeacclkekokaa", sum := "2a878a2441286f439d731d11e90164fd9f776dce4aab34159480dd7dc2643fe3", func := "loop.example/waitkit/laws.FnExactTellOne", spec := "fnExactTellOne", apart := false }
def FnExactTellOneSaid : Prop := fnExactTellOneRow.holds Try.pinned (OpenSpec.ofChange fnExactTellOneSpec)

/-- ITS FALSE NEIGHBOUR: 'it returns false'. Refute it at one input. -/
def fnExactTellOneWrong : ChangeSpec := { name := "fnExactTellOne", fn := fun _ => fun
  | [d] => { results := [.lit (.bool false)], args := [d] }
  | _ => none }
def FnExactTellOneWrongFalsely : Prop := fnExactTellOneRow.holds Try.pinned (OpenSpec.ofChange fnExactTellOneWrong)

/-- 'laws.FnExactWaitCond': WHATEVER THE INPUT: true; the input reads as it did. -/
def fnExactWaitCondSpec : ChangeSpec := { name := "fnExactWaitCond", fn := fun _ => fun
  | [d1, d2] => { results := [.lit (.bool true)], args := [d1, d2] }
  | _ => none }
def fnExactWaitCondRow : OpenClaim := { program := "ytaoeacclkekokaa", sum := "2a878a2441286f439d731d11e90164fd9f776dce4aab34159480dd7dc2643fe3", func := "loop.example/waitkit/laws.FnExactWaitCond", spec := "fnExactWaitCond", apart := false }
def FnExactWaitCondSaid : Prop := fnExactWaitCondRow.holds Try.pinned (OpenSpec.ofChange fnExactWaitCondSpec)

/-- ITS FALSE NEIGHBOUR: 'it returns false'. Refute it at one input. -/
def fnExactWaitCondWrong : ChangeSpec := { name := "fnExactWaitCond", fn := fun _ => fun
  | [d1, d2] => { results := [.lit (.bool false)], args := [d1, d2] }
  | _ => none }
def FnExactWaitCondWrongFalsely : Prop := fnExactWaitCondRow.holds Try.pinned (OpenSpec.ofChange fnExactWaitCondWrong)

/-- 'laws.FnExactArrive': WHATEVER THE INPUT: true; the input reads as it did. -/
def fnExactArriveSpec : ChangeSpec := { name := "fnExactArrive", fn := fun _ => fun
  | [d1, d2] => { results := [.lit (.bool true)], args := [d1, d2] }
  | _ => none }
def fnExactArriveRow : OpenClaim := { program := "ytaoeacclkekokaa", sum := "2a878a2441286f439d731d11e90164fd9f776dce4aab34159480dd7dc2643fe3", func := "loop.example/waitkit/laws.FnExactArrive", spec := "fnExactArrive", apart := false }
def FnExactArriveSaid : Prop := fnExactArriveRow.holds Try.pinned (OpenSpec.ofChange fnExactArriveSpec)

/-- ITS FALSE NEIGHBOUR: 'it returns false'. Refute it at one input. -/
def fnExactArriveWrong : ChangeSpec := { name := "fnExactArrive", fn := fun _ => fun
  | [d1, d2] => { results := [.lit (.bool false)], args := [d1, d2] }
  | _ => none }
def FnExactArriveWrongFalsely : Prop := fnExactArriveRow.holds Try.pinned (OpenSpec.ofChange fnExactArriveWrong)

/- THE SECOND FORM. 'bulk': how many values and letters a reading holds, each counted each time it is reached (what is shared counts as often as it is met; a slice's spare places count too). A statement '..UptoSaid' is the law's where the arguments, and the package variables that the reading takes, are together of bulk at most 1048576: NARROWER than '..Said'. Prove '..Said' where nothing that the law and all that it calls make is longer than what came in: it says more and counts as full. Else prove '..UptoSaid'. A law counts once. -/
mutual
def uptoBulk {H : Type} : DataW H → Nat
  | .lit (.string bytes) => bytes.length + 1
  | .lit _ => 1
  | .nil => 1
  | .ptr d => uptoBulk d + 1
  | .slice elems spare => uptoBulkAll elems + uptoBulkAll spare + 1
  | .agg parts => uptoBulkAll parts + 1
  | .iface _ d => uptoBulk d + 1
  | .map entries => uptoBulkEntries entries + 1
  | .held _ => 1
def uptoBulkAll {H : Type} : List (DataW H) → Nat
  | [] => 0
  | d :: r => uptoBulk d + uptoBulkAll r
def uptoBulkEntries {H : Type} : List (Lit × DataW H) → Nat
  | [] => 0
  | x :: r => uptoBulkEntry x + uptoBulkEntries r
def uptoBulkEntry {H : Type} : Lit × DataW H → Nat
  | (.string bytes, d) => bytes.length + uptoBulk d + 1
  | (_, d) => uptoBulk d + 1
 end
def uptoSmall : (H : Type) → List (DataW H) → Bool := fun _ ds => decide (uptoBulkAll ds ≤ 1048576)
def OpenSpec.upto (s : _root_.Go.ChangeSpec) : _root_.Go.OpenSpec := { _root_.Go.OpenSpec.ofChange s with cond := some uptoSmall }

/-- 'laws.FnExactConstants', WHERE WHAT IT READS IS OF BULK AT MOST 1048576: true; the input reads as it did. -/
def fnExactConstantsUptoRow : OpenClaim := { program := "ytaoeacclkekokaa", sum := "2a878a2441286f439d731d11e90164fd9f776dce4aab34159480dd7dc2643fe3", func := "loop.example/waitkit/laws.FnExactConstants", spec := "fnExactConstants", apart := false, narrowed := true }
def FnExactConstantsUptoSaid : Prop := fnExactConstantsUptoRow.holds Try.pinned (OpenSpec.upto fnExactConstantsSpec)

/-- 'laws.FnExactNewSem', WHERE WHAT IT READS IS OF BULK AT MOST 1048576: true; the input reads as it did. -/
def fnExactNewSemUptoRow : OpenClaim := { program := "ytaoeacclkekokaa", sum := "2a878a2441286f439d731d11e90164fd9f776dce4aab34159480dd7dc2643fe3", func := "loop.example/waitkit/laws.FnExactNewSem", spec := "fnExactNewSem", apart := false, narrowed := true }
def FnExactNewSemUptoSaid : Prop := fnExactNewSemUptoRow.holds Try.pinned (OpenSpec.upto fnExactNewSemSpec)

/-- 'laws.FnExactNewLock', WHERE WHAT IT READS IS OF BULK AT MOST 1048576: true; the input reads as it did. -/
def fnExactNewLockUptoRow : OpenClaim := { program := "ytaoeacclkekokaa", sum := "2a878a2441286f439d731d11e90164fd9f776dce4aab34159480dd7dc2643fe3", func := "loop.example/waitkit/laws.FnExactNewLock", spec := "fnExactNewLock", apart := false, narrowed := true }
def FnExactNewLockUptoSaid : Prop := fnExactNewLockUptoRow.holds Try.pinned (OpenSpec.upto fnExactNewLockSpec)

/-- 'laws.FnExactNewBarrier', WHERE WHAT IT READS IS OF BULK AT MOST 1048576: true; the input reads as it did. -/
def fnExactNewBarrierUptoRow : OpenClaim := { program := "ytaoeacclkekokaa", sum := "2a878a2441286f439d731d11e90164fd9f776dce4aab34159480dd7dc2643fe3", func := "loop.example/waitkit/laws.FnExactNewBarrier", spec := "fnExactNewBarrier", apart := false, narrowed := true }
def FnExactNewBarrierUptoSaid : Prop := fnExactNewBarrierUptoRow.holds Try.pinned (OpenSpec.upto fnExactNewBarrierSpec)

/-- 'laws.FnExactCondValid', WHERE WHAT IT READS IS OF BULK AT MOST 1048576: true; the input reads as it did. -/
def fnExactCondValidUptoRow : OpenClaim := { program := "ytaoeacclkekokaa", sum := "2a878a2441286f439d731d11e90164fd9f776dce4aab34159480dd7dc2643fe3", func := "loop.example/waitkit/laws.FnExactCondValid", spec := "fnExactCondValid", apart := false, narrowed := true }
def FnExactCondValidUptoSaid : Prop := fnExactCondValidUptoRow.holds Try.pinned (OpenSpec.upto fnExactCondValidSpec)

/-- 'laws.FnExactBarrierValid', WHERE WHAT IT READS IS OF BULK AT MOST 1048576: true; the input reads as it did. -/
def fnExactBarrierValidUptoRow : OpenClaim := { program := "ytaoeacclkekokaa", sum := "2a878a2441286f439d731d11e90164fd9f776dce4aab34159480dd7dc2643fe3", func := "loop.example/waitkit/laws.FnExactBarrierValid", spec := "fnExactBarrierValid", apart := false, narrowed := true }
def FnExactBarrierValidUptoSaid : Prop := fnExactBarrierValidUptoRow.holds Try.pinned (OpenSpec.upto fnExactBarrierValidSpec)

/-- 'laws.FnExactTellAll', WHERE WHAT IT READS IS OF BULK AT MOST 1048576: true; the input reads as it did. -/
def fnExactTellAllUptoRow : OpenClaim := { program := "ytaoeacclkekokaa", sum := "2a878a2441286f439d731d11e90164fd9f776dce4aab34159480dd7dc2643fe3", func := "loop.example/waitkit/laws.FnExactTellAll", spec := "fnExactTellAll", apart := false, narrowed := true }
def FnExactTellAllUptoSaid : Prop := fnExactTellAllUptoRow.holds Try.pinned (OpenSpec.upto fnExactTellAllSpec)

/-- 'laws.FnExactTellOne', WHERE WHAT IT READS IS OF BULK AT MOST 1048576: true; the input reads as it did. -/
def fnExactTellOneUptoRow : OpenClaim := { program := "ytaoeacclkekokaa", sum := "2a878a2441286f439d731d11e90164fd9f776dce4aab34159480dd7dc2643fe3", func := "loop.example/waitkit/laws.FnExactTellOne", spec := "fnExactTellOne", apart := false, narrowed := true }
def FnExactTellOneUptoSaid : Prop := fnExactTellOneUptoRow.holds Try.pinned (OpenSpec.upto fnExactTellOneSpec)

/-- 'laws.FnExactWaitCond', WHERE WHAT IT READS IS OF BULK AT MOST 1048576: true; the input reads as it did. -/
def fnExactWaitCondUptoRow : OpenClaim := { program := "ytaoeacclkekokaa", sum := "2a878a2441286f439d731d11e90164fd9f776dce4aab34159480dd7dc2643fe3", func := "loop.example/waitkit/laws.FnExactWaitCond", spec := "fnExactWaitCond", apart := false, narrowed := true }
def FnExactWaitCondUptoSaid : Prop := fnExactWaitCondUptoRow.holds Try.pinned (OpenSpec.upto fnExactWaitCondSpec)

/-- 'laws.FnExactArrive', WHERE WHAT IT READS IS OF BULK AT MOST 1048576: true; the input reads as it did. -/
def fnExactArriveUptoRow : OpenClaim := { program := "ytaoeacclkekokaa", sum := "2a878a2441286f439d731d11e90164fd9f776dce4aab34159480dd7dc2643fe3", func := "loop.example/waitkit/laws.FnExactArrive", spec := "fnExactArrive", apart := false, narrowed := true }
def FnExactArriveUptoSaid : Prop := fnExactArriveUptoRow.holds Try.pinned (OpenSpec.upto fnExactArriveSpec)

end Rows
end Go.Proofs.Ytaoeacclkekokaa
