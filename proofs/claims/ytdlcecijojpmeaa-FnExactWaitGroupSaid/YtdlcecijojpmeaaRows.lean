/-
  No cell of these rows narrows 'for every input' (looked for: loops, veiled, ifaces, maps, wideKeys, modest, calm, conditions, laid).
  DERIVED. THE GIVEN ROWS OF THIS SEAT. 8 by the template 'for every input the law returns true; each argument reads behind the call as it read before'; 0 by the template 'total and deterministic' (their statements: YtdlcecijojpmeaaTotals.lean).
  GIVEN WITH THE SEED: the statements are not yours to turn. If you find one false, say at which input.
  Laid BY PROGRAM, IN A SANDBOX (cutbox-rows.mjs): the forced cells as the released guide's own fill.sh prints them over the translation 9095387811f86c8e… (all of the seat's roots in one cut). By AI agents, Wed Nov 11 2026. No macro, syntax, notation, axiom, sorry.
-/
import Derived.Test.YtdlcecijojpmeaaChecked
import GoSem.Claim
import GoSem.ClaimJoined
import GoSem.ClaimMapViews
import Derived.JoinedTies
import Derived.KernelRfl
namespace Go.Proofs.Ytdlcecijojpmeaa
/- THE CELL 'sum', in the pinned program and in every row, IS THE sha256 OF THE DUMP (.gsa) THAT YtdlcecijojpmeaaProg.lean LOADS. Nothing in Lean hashes anything: it is a label: what it is worth is what the hold of that sum in a sandbox is worth. -/
noncomputable def Try.pinned : Pinned := { name := "ytdlcecijojpmeaa", sum := "9095387811f86c8e1af0482b816cb5ce66715594f5c0211bc2cc49e4fbcf7bd9", checked := Try.checked }
namespace Rows
def none {H : Type} : Left H := { results := [], args := [] }

/-- 'laws.FnExactGroupSame': WHATEVER THE INPUT: true; the input reads as it did. -/
def fnExactGroupSameSpec : ChangeSpec := { name := "fnExactGroupSame", fn := fun _ => fun
  | [d1, d2] => { results := [.lit (.bool true)], args := [d1, d2] }
  | _ => none }
def fnExactGroupSameRow : OpenClaim := { program := "ytdlcecijojpmeaa", sum := "9095387811f86c8e1af0482b816cb5ce66715594f5c0211bc2cc49e4fbcf7bd9", func := "loop.example/waitkit/laws.FnExactGroupSame", spec := "fnExactGroupSame", apart := false }
def FnExactGroupSameSaid : Prop := fnExactGroupSameRow.holds Try.pinned (OpenSpec.ofChange fnExactGroupSameSpec)

/-- ITS FALSE NEIGHBOUR: 'it returns false'. Refute it at one input. -/
def fnExactGroupSameWrong : ChangeSpec := { name := "fnExactGroupSame", fn := fun _ => fun
  | [d1, d2] => { results := [.lit (.bool false)], args := [d1, d2] }
  | _ => none }
def FnExactGroupSameWrongFalsely : Prop := fnExactGroupSameRow.holds Try.pinned (OpenSpec.ofChange fnExactGroupSameWrong)

/-- 'laws.FnExactOnceSame': WHATEVER THE INPUT: true; the input reads as it did. -/
def fnExactOnceSameSpec : ChangeSpec := { name := "fnExactOnceSame", fn := fun _ => fun
  | [d1, d2] => { results := [.lit (.bool true)], args := [d1, d2] }
  | _ => none }
def fnExactOnceSameRow : OpenClaim := { program := "ytdlcecijojpmeaa", sum := "9095387811f86c8e1af0482b816cb5ce66715594f5c0211bc2cc49e4fbcf7bd9", func := "loop.example/waitkit/laws.FnExactOnceSame", spec := "fnExactOnceSame", apart := false }
def FnExactOnceSameSaid : Prop := fnExactOnceSameRow.holds Try.pinned (OpenSpec.ofChange fnExactOnceSameSpec)

/-- ITS FALSE NEIGHBOUR: 'it returns false'. Refute it at one input. -/
def fnExactOnceSameWrong : ChangeSpec := { name := "fnExactOnceSame", fn := fun _ => fun
  | [d1, d2] => { results := [.lit (.bool false)], args := [d1, d2] }
  | _ => none }
def FnExactOnceSameWrongFalsely : Prop := fnExactOnceSameRow.holds Try.pinned (OpenSpec.ofChange fnExactOnceSameWrong)

/-- 'laws.FnExactGroupValid': WHATEVER THE INPUT: true; the input reads as it did. -/
def fnExactGroupValidSpec : ChangeSpec := { name := "fnExactGroupValid", fn := fun _ => fun
  | [d] => { results := [.lit (.bool true)], args := [d] }
  | _ => none }
def fnExactGroupValidRow : OpenClaim := { program := "ytdlcecijojpmeaa", sum := "9095387811f86c8e1af0482b816cb5ce66715594f5c0211bc2cc49e4fbcf7bd9", func := "loop.example/waitkit/laws.FnExactGroupValid", spec := "fnExactGroupValid", apart := false }
def FnExactGroupValidSaid : Prop := fnExactGroupValidRow.holds Try.pinned (OpenSpec.ofChange fnExactGroupValidSpec)

/-- ITS FALSE NEIGHBOUR: 'it returns false'. Refute it at one input. -/
def fnExactGroupValidWrong : ChangeSpec := { name := "fnExactGroupValid", fn := fun _ => fun
  | [d] => { results := [.lit (.bool false)], args := [d] }
  | _ => none }
def FnExactGroupValidWrongFalsely : Prop := fnExactGroupValidRow.holds Try.pinned (OpenSpec.ofChange fnExactGroupValidWrong)

/-- 'laws.FnExactOnceValid': WHATEVER THE INPUT: true; the input reads as it did. -/
def fnExactOnceValidSpec : ChangeSpec := { name := "fnExactOnceValid", fn := fun _ => fun
  | [d] => { results := [.lit (.bool true)], args := [d] }
  | _ => none }
def fnExactOnceValidRow : OpenClaim := { program := "ytdlcecijojpmeaa", sum := "9095387811f86c8e1af0482b816cb5ce66715594f5c0211bc2cc49e4fbcf7bd9", func := "loop.example/waitkit/laws.FnExactOnceValid", spec := "fnExactOnceValid", apart := false }
def FnExactOnceValidSaid : Prop := fnExactOnceValidRow.holds Try.pinned (OpenSpec.ofChange fnExactOnceValidSpec)

/-- ITS FALSE NEIGHBOUR: 'it returns false'. Refute it at one input. -/
def fnExactOnceValidWrong : ChangeSpec := { name := "fnExactOnceValid", fn := fun _ => fun
  | [d] => { results := [.lit (.bool false)], args := [d] }
  | _ => none }
def FnExactOnceValidWrongFalsely : Prop := fnExactOnceValidRow.holds Try.pinned (OpenSpec.ofChange fnExactOnceValidWrong)

/-- 'laws.FnExactAddGroup': WHATEVER THE INPUT: true; the input reads as it did. -/
def fnExactAddGroupSpec : ChangeSpec := { name := "fnExactAddGroup", fn := fun _ => fun
  | [d1, d2] => { results := [.lit (.bool true)], args := [d1, d2] }
  | _ => none }
def fnExactAddGroupRow : OpenClaim := { program := "ytdlcecijojpmeaa", sum := "9095387811f86c8e1af0482b816cb5ce66715594f5c0211bc2cc49e4fbcf7bd9", func := "loop.example/waitkit/laws.FnExactAddGroup", spec := "fnExactAddGroup", apart := false }
def FnExactAddGroupSaid : Prop := fnExactAddGroupRow.holds Try.pinned (OpenSpec.ofChange fnExactAddGroupSpec)

/-- ITS FALSE NEIGHBOUR: 'it returns false'. Refute it at one input. -/
def fnExactAddGroupWrong : ChangeSpec := { name := "fnExactAddGroup", fn := fun _ => fun
  | [d1, d2] => { results := [.lit (.bool false)], args := [d1, d2] }
  | _ => none }
def FnExactAddGroupWrongFalsely : Prop := fnExactAddGroupRow.holds Try.pinned (OpenSpec.ofChange fnExactAddGroupWrong)

/-- 'laws.FnExactWaitGroup': WHATEVER THE INPUT: true; the input reads as it did. -/
def fnExactWaitGroupSpec : ChangeSpec := { name := "fnExactWaitGroup", fn := fun _ => fun
  | [d1, d2] => { results := [.lit (.bool true)], args := [d1, d2] }
  | _ => none }
def fnExactWaitGroupRow : OpenClaim := { program := "ytdlcecijojpmeaa", sum := "9095387811f86c8e1af0482b816cb5ce66715594f5c0211bc2cc49e4fbcf7bd9", func := "loop.example/waitkit/laws.FnExactWaitGroup", spec := "fnExactWaitGroup", apart := false }
def FnExactWaitGroupSaid : Prop := fnExactWaitGroupRow.holds Try.pinned (OpenSpec.ofChange fnExactWaitGroupSpec)

/-- ITS FALSE NEIGHBOUR: 'it returns false'. Refute it at one input. -/
def fnExactWaitGroupWrong : ChangeSpec := { name := "fnExactWaitGroup", fn := fun _ => fun
  | [d1, d2] => { results := [.lit (.bool false)], args := [d1, d2] }
  | _ => none }
def FnExactWaitGroupWrongFalsely : Prop := fnExactWaitGroupRow.holds Try.pinned (OpenSpec.ofChange fnExactWaitGroupWrong)

/-- 'laws.FnExactFinishOnce': WHATEVER THE INPUT: true; the input reads as it did. -/
def fnExactFinishOnceSpec : ChangeSpec := { name := "fnExactFinishOnce", fn := fun _ => fun
  | [d1, d2, d3] => { results := [.lit (.bool true)], args := [d1, d2, d3] }
  | _ => none }
def fnExactFinishOnceRow : OpenClaim := { program := "ytdlcecijojpmeaa", sum := "9095387811f86c8e1af0482b816cb5ce66715594f5c0211bc2cc49e4fbcf7bd9", func := "loop.example/waitkit/laws.FnExactFinishOnce", spec := "fnExactFinishOnce", apart := false }
def FnExactFinishOnceSaid : Prop := fnExactFinishOnceRow.holds Try.pinned (OpenSpec.ofChange fnExactFinishOnceSpec)

/-- ITS FALSE NEIGHBOUR: 'it returns false'. Refute it at one input. -/
def fnExactFinishOnceWrong : ChangeSpec := { name := "fnExactFinishOnce", fn := fun _ => fun
  | [d1, d2, d3] => { results := [.lit (.bool false)], args := [d1, d2, d3] }
  | _ => none }
def FnExactFinishOnceWrongFalsely : Prop := fnExactFinishOnceRow.holds Try.pinned (OpenSpec.ofChange fnExactFinishOnceWrong)

/-- 'laws.FnExactFailOnce': WHATEVER THE INPUT: true; the input reads as it did. -/
def fnExactFailOnceSpec : ChangeSpec := { name := "fnExactFailOnce", fn := fun _ => fun
  | [d1, d2] => { results := [.lit (.bool true)], args := [d1, d2] }
  | _ => none }
def fnExactFailOnceRow : OpenClaim := { program := "ytdlcecijojpmeaa", sum := "9095387811f86c8e1af0482b816cb5ce66715594f5c0211bc2cc49e4fbcf7bd9", func := "loop.example/waitkit/laws.FnExactFailOnce", spec := "fnExactFailOnce", apart := false }
def FnExactFailOnceSaid : Prop := fnExactFailOnceRow.holds Try.pinned (OpenSpec.ofChange fnExactFailOnceSpec)

/-- ITS FALSE NEIGHBOUR: 'it returns false'. Refute it at one input. -/
def fnExactFailOnceWrong : ChangeSpec := { name := "fnExactFailOnce", fn := fun _ => fun
  | [d1, d2] => { results := [.lit (.bool false)], args := [d1, d2] }
  | _ => none }
def FnExactFailOnceWrongFalsely : Prop := fnExactFailOnceRow.holds Try.pinned (OpenSpec.ofChange fnExactFailOnceWrong)

/- THE SECOND FORM. 'bulk': how many values and letters a reading holds, each counted each time it is reached (what is shared counts as often as it is met; a slice's spare places count too). A statement '..UptoSaid' is the law's where the arguments, and the package variables that the reading takes, are together of bulk at most 1048576: NARROWER than '..Said'. Prove '..Said' where nothing that the law and all that it calls make is longer than what came in: it says more and counts as full. Else prove '..UptoSaid'. A law counts once. -/
mutual
def uptoBulk {H : Type} : DataW H → Nat
  | .lit (.string bytes) => bytes.length + 1
  | .lit _ => 1
  | .nil => 1
  | .ptr d => uptoBulk d + 1
  | .slice elems spare => uptoBulkAll elems + uptoBulkAll spare + 1
  | .agg parts => uptoBulkAll parts + 1
  | .iface _ d => uptoBulk d + 1
  | .map entries => uptoBulkEntries entries + 1
  | .held _ => 1
def uptoBulkAll {H : Type} : List (DataW H) → Nat
  | [] => 0
  | d :: r => uptoBulk d + uptoBulkAll r
def uptoBulkEntries {H : Type} : List (Lit × DataW H) → Nat
  | [] => 0
  | x :: r => uptoBulkEntry x + uptoBulkEntries r
def uptoBulkEntry {H : Type} : Lit × DataW H → Nat
  | (.string bytes, d) => bytes.length + uptoBulk d + 1
  | (_, d) => uptoBulk d + 1
 end
def uptoSmall : (H : Type) → List (DataW H) → Bool := fun _ ds => decide (uptoBulkAll ds ≤ 1048576)
def OpenSpec.upto (s : _root_.Go.ChangeSpec) : _root_.Go.OpenSpec := { _root_.Go.OpenSpec.ofChange s with cond := some uptoSmall }

/-- 'laws.FnExactGroupSame', WHERE WHAT IT READS IS OF BULK AT MOST 1048576: true; the input reads as it did. -/
def fnExactGroupSameUptoRow : OpenClaim := { program := "ytdlcecijojpmeaa", sum := "9095387811f86c8e1af0482b816cb5ce66715594f5c0211bc2cc49e4fbcf7bd9", func := "loop.example/waitkit/laws.FnExactGroupSame", spec := "fnExactGroupSame", apart := false, narrowed := true }
def FnExactGroupSameUptoSaid : Prop := fnExactGroupSameUptoRow.holds Try.pinned (OpenSpec.upto fnExactGroupSameSpec)

/-- 'laws.FnExactOnceSame', WHERE WHAT IT READS IS OF BULK AT MOST 1048576: true; the input reads as it did. -/
def fnExactOnceSameUptoRow : OpenClaim := { program := "ytdlcecijojpmeaa", sum := "9095387811f86c8e1af0482b816cb5ce66715594f5c0211bc2cc49e4fbcf7bd9", func := "loop.example/waitkit/laws.FnExactOnceSame", spec := "fnExactOnceSame", apart := false, narrowed := true }
def FnExactOnceSameUptoSaid : Prop := fnExactOnceSameUptoRow.holds Try.pinned (OpenSpec.upto fnExactOnceSameSpec)

/-- 'laws.FnExactGroupValid', WHERE WHAT IT READS IS OF BULK AT MOST 1048576: true; the input reads as it did. -/
def fnExactGroupValidUptoRow : OpenClaim := { program := "ytdlcecijojpmeaa", sum := "9095387811f86c8e1af0482b816cb5ce66715594f5c0211bc2cc49e4fbcf7bd9", func := "loop.example/waitkit/laws.FnExactGroupValid", spec := "fnExactGroupValid", apart := false, narrowed := true }
def FnExactGroupValidUptoSaid : Prop := fnExactGroupValidUptoRow.holds Try.pinned (OpenSpec.upto fnExactGroupValidSpec)

/-- 'laws.FnExactOnceValid', WHERE WHAT IT READS IS OF BULK AT MOST 1048576: true; the input reads as it did. -/
def fnExactOnceValidUptoRow : OpenClaim := { program := "ytdlcecijojpmeaa", sum := "9095387811f86c8e1af0482b816cb5ce66715594f5c0211bc2cc49e4fbcf7bd9", func := "loop.example/waitkit/laws.FnExactOnceValid", spec := "fnExactOnceValid", apart := false, narrowed := true }
def FnExactOnceValidUptoSaid : Prop := fnExactOnceValidUptoRow.holds Try.pinned (OpenSpec.upto fnExactOnceValidSpec)

/-- 'laws.FnExactAddGroup', WHERE WHAT IT READS IS OF BULK AT MOST 1048576: true; the input reads as it did. -/
def fnExactAddGroupUptoRow : OpenClaim := { program := "ytdlcecijojpmeaa", sum := "9095387811f86c8e1af0482b816cb5ce66715594f5c0211bc2cc49e4fbcf7bd9", func := "loop.example/waitkit/laws.FnExactAddGroup", spec := "fnExactAddGroup", apart := false, narrowed := true }
def FnExactAddGroupUptoSaid : Prop := fnExactAddGroupUptoRow.holds Try.pinned (OpenSpec.upto fnExactAddGroupSpec)

/-- 'laws.FnExactWaitGroup', WHERE WHAT IT READS IS OF BULK AT MOST 1048576: true; the input reads as it did. -/
def fnExactWaitGroupUptoRow : OpenClaim := { program := "ytdlcecijojpmeaa", sum := "9095387811f86c8e1af0482b816cb5ce66715594f5c0211bc2cc49e4fbcf7bd9", func := "loop.example/waitkit/laws.FnExactWaitGroup", spec := "fnExactWaitGroup", apart := false, narrowed := true }
def FnExactWaitGroupUptoSaid : Prop := fnExactWaitGroupUptoRow.holds Try.pinned (OpenSpec.upto fnExactWaitGroupSpec)

/-- 'laws.FnExactFinishOnce', WHERE WHAT IT READS IS OF BULK AT MOST 1048576: true; the input reads as it did. -/
def fnExactFinishOnceUptoRow : OpenClaim := { program := "ytdlcecijojpmeaa", sum := "9095387811f86c8e1af0482b816cb5ce66715594f5c0211bc2cc49e4fbcf7bd9", func := "loop.example/waitkit/laws.FnExactFinishOnce", spec := "fnExactFinishOnce", apart := false, narrowed := true }
def FnExactFinishOnceUptoSaid : Prop := fnExactFinishOnceUptoRow.holds Try.pinned (OpenSpec.upto fnExactFinishOnceSpec)

/-- 'laws.FnExactFailOnce', WHERE WHAT IT READS IS OF BULK AT MOST 1048576: true; the input reads as it did. -/
def fnExactFailOnceUptoRow : OpenClaim := { program := "ytdlcecijojpmeaa", sum := "9095387811f86c8e1af0482b816cb5ce66715594f5c0211bc2cc49e4fbcf7bd9", func := "loop.example/waitkit/laws.FnExactFailOnce", spec := "fnExactFailOnce", apart := false, narrowed := true }
def FnExactFailOnceUptoSaid : Prop := fnExactFailOnceUptoRow.holds Try.pinned (OpenSpec.upto fnExactFailOnceSpec)

end Rows
end Go.Proofs.Ytdlcecijojpmeaa
