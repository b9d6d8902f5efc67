/-
  No cell of these rows narrows 'for every input' (looked for: loops, veiled, ifaces, maps, wideKeys, modest, calm, conditions, laid).
  DERIVED. THE GIVEN ROWS OF THIS SEAT. 9 by the template 'for every input the law returns true; each argument reads behind the call as it read before'; 0 by the template 'total and deterministic' (their statements: YtafpnkcdoeicgaaTotals.lean).
  GIVEN WITH THE SEED: the statements are not yours to turn. If you find one false, say at which input.
  Laid BY PROGRAM, IN A SANDBOX (cutbox-rows.mjs): the forced cells as the released guide's own fill.sh prints them over the translation 728788d0e2e44132… (all of the seat's roots in one cut). By AI agents, Wed Nov 11 2026. No macro, syntax, notation, axiom, sorry.
-/
import Derived.Test.YtafpnkcdoeicgaaChecked
import GoSem.Claim
import GoSem.ClaimJoined
import GoSem.ClaimMapViews
import Derived.JoinedTies
import Derived.KernelRfl
namespace Go.Proofs.Ytafpnkcdoeicgaa
/- THE CELL 'sum', in the pinned program and in every row, IS THE sha256 OF THE DUMP (.gsa) THAT YtafpnkcdoeicgaaProg.lean LOADS. Nothing in Lean hashes anything: it is a label: what it is worth is what the hold of that sum in a sandbox is worth. -/
noncomputable def Try.pinned : Pinned := { name := "ytafpnkcdoeicgaa", sum := "728788d0e2e44132a273198bd819f0f33ef087cba8bce6617bc5894ea8d67a9b", checked := Try.checked }
namespace Rows
def none {H : Type} : Left H := { results := [], args := [] }

/-- 'laws.FnExactFlightsSame': WHATEVER THE INPUT: true; the input reads as it did. -/
def fnExactFlightsSameSpec : ChangeSpec := { name := "fnExactFlightsSame", fn := fun _ => fun
  | [d1, d2] => { results := [.lit (.bool true)], args := [d1, d2] }
  | _ => none }
def fnExactFlightsSameRow : OpenClaim := { program := "ytafpnkcdoeicgaa", sum := "728788d0e2e44132a273198bd819f0f33ef087cba8bce6617bc5894ea8d67a9b", func := "loop.example/waitkit/laws.FnExactFlightsSame", spec := "fnExactFlightsSame", unfollowed := true, recurses := true, apart := false }
def FnExactFlightsSameSaid : Prop := fnExactFlightsSameRow.holds Try.pinned (OpenSpec.ofChange fnExactFlightsSameSpec)

/-- ITS FALSE NEIGHBOUR: 'it returns false'. Refute it at one input. -/
def fnExactFlightsSameWrong : ChangeSpec := { name := "fnExactFlightsSame", fn := fun _ => fun
  | [d1, d2] => { results := [.lit (.bool false)], args := [d1, d2] }
  | _ => none }
def FnExactFlightsSameWrongFalsely : Prop := fnExactFlightsSameRow.holds Try.pinned (OpenSpec.ofChange fnExactFlightsSameWrong)

/-- 'laws.FnExactFlightsValid': WHATEVER THE INPUT: true; the input reads as it did. -/
def fnExactFlightsValidSpec : ChangeSpec := { name := "fnExactFlightsValid", fn := fun _ => fun
  | [d] => { results := [.lit (.bool true)], args := [d] }
  | _ => none }
def fnExactFlightsValidRow : OpenClaim := { program := "ytafpnkcdoeicgaa", sum := "728788d0e2e44132a273198bd819f0f33ef087cba8bce6617bc5894ea8d67a9b", func := "loop.example/waitkit/laws.FnExactFlightsValid", spec := "fnExactFlightsValid", apart := false }
def FnExactFlightsValidSaid : Prop := fnExactFlightsValidRow.holds Try.pinned (OpenSpec.ofChange fnExactFlightsValidSpec)

/-- ITS FALSE NEIGHBOUR: 'it returns false'. Refute it at one input. -/
def fnExactFlightsValidWrong : ChangeSpec := { name := "fnExactFlightsValid", fn := fun _ => fun
  | [d] => { results := [.lit (.bool false)], args := [d] }
  | _ => none }
def FnExactFlightsValidWrongFalsely : Prop := fnExactFlightsValidRow.holds Try.pinned (OpenSpec.ofChange fnExactFlightsValidWrong)

/-- 'laws.FnExactJoinFlight': WHATEVER THE INPUT: true; the input reads as it did. -/
def fnExactJoinFlightSpec : ChangeSpec := { name := "fnExactJoinFlight", fn := fun _ => fun
  | [d1, d2, d3] => { results := [.lit (.bool true)], args := [d1, d2, d3] }
  | _ => none }
def fnExactJoinFlightRow : OpenClaim := { program := "ytafpnkcdoeicgaa", sum := "728788d0e2e44132a273198bd819f0f33ef087cba8bce6617bc5894ea8d67a9b", func := "loop.example/waitkit/laws.FnExactJoinFlight", spec := "fnExactJoinFlight", inPlace := ["slices.overlaps[loop.example/waitkit/impl.Flight]"], unfollowed := true, recurses := true, apart := false }
def FnExactJoinFlightSaid : Prop := fnExactJoinFlightRow.holds Try.pinned (OpenSpec.ofChange fnExactJoinFlightSpec)

/-- ITS FALSE NEIGHBOUR: 'it returns false'. Refute it at one input. -/
def fnExactJoinFlightWrong : ChangeSpec := { name := "fnExactJoinFlight", fn := fun _ => fun
  | [d1, d2, d3] => { results := [.lit (.bool false)], args := [d1, d2, d3] }
  | _ => none }
def FnExactJoinFlightWrongFalsely : Prop := fnExactJoinFlightRow.holds Try.pinned (OpenSpec.ofChange fnExactJoinFlightWrong)

/-- 'laws.FnExactLandFlight': WHATEVER THE INPUT: true; the input reads as it did. -/
def fnExactLandFlightSpec : ChangeSpec := { name := "fnExactLandFlight", fn := fun _ => fun
  | [d1, d2, d3] => { results := [.lit (.bool true)], args := [d1, d2, d3] }
  | _ => none }
def fnExactLandFlightRow : OpenClaim := { program := "ytafpnkcdoeicgaa", sum := "728788d0e2e44132a273198bd819f0f33ef087cba8bce6617bc5894ea8d67a9b", func := "loop.example/waitkit/laws.FnExactLandFlight", spec := "fnExactLandFlight", unfollowed := true, recurses := true, apart := false }
def FnExactLandFlightSaid : Prop := fnExactLandFlightRow.holds Try.pinned (OpenSpec.ofChange fnExactLandFlightSpec)

/-- ITS FALSE NEIGHBOUR: 'it returns false'. Refute it at one input. -/
def fnExactLandFlightWrong : ChangeSpec := { name := "fnExactLandFlight", fn := fun _ => fun
  | [d1, d2, d3] => { results := [.lit (.bool false)], args := [d1, d2, d3] }
  | _ => none }
def FnExactLandFlightWrongFalsely : Prop := fnExactLandFlightRow.holds Try.pinned (OpenSpec.ofChange fnExactLandFlightWrong)

/-- 'laws.FnLandFlight': WHATEVER THE INPUT: true; the input reads as it did. -/
def fnLandFlightSpec : ChangeSpec := { name := "fnLandFlight", fn := fun _ => fun
  | [d] => { results := [.lit (.bool true)], args := [d] }
  | _ => none }
def fnLandFlightRow : OpenClaim := { program := "ytafpnkcdoeicgaa", sum := "728788d0e2e44132a273198bd819f0f33ef087cba8bce6617bc5894ea8d67a9b", func := "loop.example/waitkit/laws.FnLandFlight", spec := "fnLandFlight", inPlace := ["slices.overlaps[loop.example/waitkit/impl.Flight]"], unfollowed := true, recurses := true, apart := false }
def FnLandFlightSaid : Prop := fnLandFlightRow.holds Try.pinned (OpenSpec.ofChange fnLandFlightSpec)

/-- ITS FALSE NEIGHBOUR: 'it returns false'. Refute it at one input. -/
def fnLandFlightWrong : ChangeSpec := { name := "fnLandFlight", fn := fun _ => fun
  | [d] => { results := [.lit (.bool false)], args := [d] }
  | _ => none }
def FnLandFlightWrongFalsely : Prop := fnLandFlightRow.holds Try.pinned (OpenSpec.ofChange fnLandFlightWrong)

/-- 'laws.FnFlightsSame': WHATEVER THE INPUT: true; the input reads as it did. -/
def fnFlightsSameSpec : ChangeSpec := { name := "fnFlightsSame", fn := fun _ => fun
  | [d] => { results := [.lit (.bool true)], args := [d] }
  | _ => none }
def fnFlightsSameRow : OpenClaim := { program := "ytafpnkcdoeicgaa", sum := "728788d0e2e44132a273198bd819f0f33ef087cba8bce6617bc5894ea8d67a9b", func := "loop.example/waitkit/laws.FnFlightsSame", spec := "fnFlightsSame", unfollowed := true, recurses := true, apart := false }
def FnFlightsSameSaid : Prop := fnFlightsSameRow.holds Try.pinned (OpenSpec.ofChange fnFlightsSameSpec)

/-- ITS FALSE NEIGHBOUR: 'it returns false'. Refute it at one input. -/
def fnFlightsSameWrong : ChangeSpec := { name := "fnFlightsSame", fn := fun _ => fun
  | [d] => { results := [.lit (.bool false)], args := [d] }
  | _ => none }
def FnFlightsSameWrongFalsely : Prop := fnFlightsSameRow.holds Try.pinned (OpenSpec.ofChange fnFlightsSameWrong)

/-- 'laws.FnFlightKeys': WHATEVER THE INPUT: true; the input reads as it did. -/
def fnFlightKeysSpec : ChangeSpec := { name := "fnFlightKeys", fn := fun _ => fun
  | [d] => { results := [.lit (.bool true)], args := [d] }
  | _ => none }
def fnFlightKeysRow : OpenClaim := { program := "ytafpnkcdoeicgaa", sum := "728788d0e2e44132a273198bd819f0f33ef087cba8bce6617bc5894ea8d67a9b", func := "loop.example/waitkit/laws.FnFlightKeys", spec := "fnFlightKeys", inPlace := ["slices.overlaps[loop.example/waitkit/impl.Flight]"], unfollowed := true, recurses := true, apart := false }
def FnFlightKeysSaid : Prop := fnFlightKeysRow.holds Try.pinned (OpenSpec.ofChange fnFlightKeysSpec)

/-- ITS FALSE NEIGHBOUR: 'it returns false'. Refute it at one input. -/
def fnFlightKeysWrong : ChangeSpec := { name := "fnFlightKeys", fn := fun _ => fun
  | [d] => { results := [.lit (.bool false)], args := [d] }
  | _ => none }
def FnFlightKeysWrongFalsely : Prop := fnFlightKeysRow.holds Try.pinned (OpenSpec.ofChange fnFlightKeysWrong)

/-- 'laws.FnLandAll': WHATEVER THE INPUT: true; the input reads as it did. -/
def fnLandAllSpec : ChangeSpec := { name := "fnLandAll", fn := fun _ => fun
  | [d] => { results := [.lit (.bool true)], args := [d] }
  | _ => none }
def fnLandAllRow : OpenClaim := { program := "ytafpnkcdoeicgaa", sum := "728788d0e2e44132a273198bd819f0f33ef087cba8bce6617bc5894ea8d67a9b", func := "loop.example/waitkit/laws.FnLandAll", spec := "fnLandAll", inPlace := ["slices.overlaps[loop.example/waitkit/impl.Flight]"], unfollowed := true, recurses := true, apart := false }
def FnLandAllSaid : Prop := fnLandAllRow.holds Try.pinned (OpenSpec.ofChange fnLandAllSpec)

/-- ITS FALSE NEIGHBOUR: 'it returns false'. Refute it at one input. -/
def fnLandAllWrong : ChangeSpec := { name := "fnLandAll", fn := fun _ => fun
  | [d] => { results := [.lit (.bool false)], args := [d] }
  | _ => none }
def FnLandAllWrongFalsely : Prop := fnLandAllRow.holds Try.pinned (OpenSpec.ofChange fnLandAllWrong)

/-- 'laws.FnJoinFlight': WHATEVER THE INPUT: true; the input reads as it did. -/
def fnJoinFlightSpec : ChangeSpec := { name := "fnJoinFlight", fn := fun _ => fun
  | [d] => { results := [.lit (.bool true)], args := [d] }
  | _ => none }
def fnJoinFlightRow : OpenClaim := { program := "ytafpnkcdoeicgaa", sum := "728788d0e2e44132a273198bd819f0f33ef087cba8bce6617bc5894ea8d67a9b", func := "loop.example/waitkit/laws.FnJoinFlight", spec := "fnJoinFlight", inPlace := ["slices.overlaps[loop.example/waitkit/impl.Flight]"], unfollowed := true, recurses := true, apart := false }
def FnJoinFlightSaid : Prop := fnJoinFlightRow.holds Try.pinned (OpenSpec.ofChange fnJoinFlightSpec)

/-- ITS FALSE NEIGHBOUR: 'it returns false'. Refute it at one input. -/
def fnJoinFlightWrong : ChangeSpec := { name := "fnJoinFlight", fn := fun _ => fun
  | [d] => { results := [.lit (.bool false)], args := [d] }
  | _ => none }
def FnJoinFlightWrongFalsely : Prop := fnJoinFlightRow.holds Try.pinned (OpenSpec.ofChange fnJoinFlightWrong)

/- THE SECOND FORM. 'bulk': how many values and letters a reading holds, each counted each time it is reached (what is shared counts as often as it is met; a slice's spare places count too). A statement '..UptoSaid' is the law's where the arguments, and the package variables that the reading takes, are together of bulk at most 1048576: NARROWER than '..Said'. Prove '..Said' where nothing that the law and all that it calls make is longer than what came in: it says more and counts as full. Else prove '..UptoSaid'. A law counts once. -/
mutual
def uptoBulk {H : Type} : DataW H → Nat
  | .lit (.string bytes) => bytes.length + 1
  | .lit _ => 1
  | .nil => 1
  | .ptr d => uptoBulk d + 1
  | .slice elems spare => uptoBulkAll elems + uptoBulkAll spare + 1
  | .agg parts => uptoBulkAll parts + 1
  | .iface _ d => uptoBulk d + 1
  | .map entries => uptoBulkEntries entries + 1
  | .held _ => 1
def uptoBulkAll {H : Type} : List (DataW H) → Nat
  | [] => 0
  | d :: r => uptoBulk d + uptoBulkAll r
def uptoBulkEntries {H : Type} : List (Lit × DataW H) → Nat
  | [] => 0
  | x :: r => uptoBulkEntry x + uptoBulkEntries r
def uptoBulkEntry {H : Type} : Lit × DataW H → Nat
  | (.string bytes, d) => bytes.length + uptoBulk d + 1
  | (_, d) => uptoBulk d + 1
 end
def uptoSmall : (H : Type) → List (DataW H) → Bool := fun _ ds => decide (uptoBulkAll ds ≤ 1048576)
def OpenSpec.upto (s : _root_.Go.ChangeSpec) : _root_.Go.OpenSpec := { _root_.Go.OpenSpec.ofChange s with cond := some uptoSmall }

/-- 'laws.FnExactFlightsSame', WHERE WHAT IT READS IS OF BULK AT MOST 1048576: true; the input reads as it did. -/
def fnExactFlightsSameUptoRow : OpenClaim := { program := "ytafpnkcdoeicgaa", sum := "728788d0e2e44132a273198bd819f0f33ef087cba8bce6617bc5894ea8d67a9b", func := "loop.example/waitkit/laws.FnExactFlightsSame", spec := "fnExactFlightsSame", unfollowed := true, recurses := true, apart := false, narrowed := true }
def FnExactFlightsSameUptoSaid : Prop := fnExactFlightsSameUptoRow.holds Try.pinned (OpenSpec.upto fnExactFlightsSameSpec)

/-- 'laws.FnExactFlightsValid', WHERE WHAT IT READS IS OF BULK AT MOST 1048576: true; the input reads as it did. -/
def fnExactFlightsValidUptoRow : OpenClaim := { program := "ytafpnkcdoeicgaa", sum := "728788d0e2e44132a273198bd819f0f33ef087cba8bce6617bc5894ea8d67a9b", func := "loop.example/waitkit/laws.FnExactFlightsValid", spec := "fnExactFlightsValid", apart := false, narrowed := true }
def FnExactFlightsValidUptoSaid : Prop := fnExactFlightsValidUptoRow.holds Try.pinned (OpenSpec.upto fnExactFlightsValidSpec)

/-- 'laws.FnExactJoinFlight', WHERE WHAT IT READS IS OF BULK AT MOST 1048576: true; the input reads as it did. -/
def fnExactJoinFlightUptoRow : OpenClaim := { program := "ytafpnkcdoeicgaa", sum := "728788d0e2e44132a273198bd819f0f33ef087cba8bce6617bc5894ea8d67a9b", func := "loop.example/waitkit/laws.FnExactJoinFlight", spec := "fnExactJoinFlight", inPlace := ["slices.overlaps[loop.example/waitkit/impl.Flight]"], unfollowed := true, recurses := true, apart := false, narrowed := true }
def FnExactJoinFlightUptoSaid : Prop := fnExactJoinFlightUptoRow.holds Try.pinned (OpenSpec.upto fnExactJoinFlightSpec)

/-- 'laws.FnExactLandFlight', WHERE WHAT IT READS IS OF BULK AT MOST 1048576: true; the input reads as it did. -/
def fnExactLandFlightUptoRow : OpenClaim := { program := "ytafpnkcdoeicgaa", sum := "728788d0e2e44132a273198bd819f0f33ef087cba8bce6617bc5894ea8d67a9b", func := "loop.example/waitkit/laws.FnExactLandFlight", spec := "fnExactLandFlight", unfollowed := true, recurses := true, apart := false, narrowed := true }
def FnExactLandFlightUptoSaid : Prop := fnExactLandFlightUptoRow.holds Try.pinned (OpenSpec.upto fnExactLandFlightSpec)

/-- 'laws.FnLandFlight', WHERE WHAT IT READS IS OF BULK AT MOST 1048576: true; the input reads as it did. -/
def fnLandFlightUptoRow : OpenClaim := { program := "ytafpnkcdoeicgaa", sum := "728788d0e2e44132a273198bd819f0f33ef087cba8bce6617bc5894ea8d67a9b", func := "loop.example/waitkit/laws.FnLandFlight", spec := "fnLandFlight", inPlace := ["slices.overlaps[loop.example/waitkit/impl.Flight]"], unfollowed := true, recurses := true, apart := false, narrowed := true }
def FnLandFlightUptoSaid : Prop := fnLandFlightUptoRow.holds Try.pinned (OpenSpec.upto fnLandFlightSpec)

/-- 'laws.FnFlightsSame', WHERE WHAT IT READS IS OF BULK AT MOST 1048576: true; the input reads as it did. -/
def fnFlightsSameUptoRow : OpenClaim := { program := "ytafpnkcdoeicgaa", sum := "728788d0e2e44132a273198bd819f0f33ef087cba8bce6617bc5894ea8d67a9b", func := "loop.example/waitkit/laws.FnFlightsSame", spec := "fnFlightsSame", unfollowed := true, recurses := true, apart := false, narrowed := true }
def FnFlightsSameUptoSaid : Prop := fnFlightsSameUptoRow.holds Try.pinned (OpenSpec.upto fnFlightsSameSpec)

/-- 'laws.FnFlightKeys', WHERE WHAT IT READS IS OF BULK AT MOST 1048576: true; the input reads as it did. -/
def fnFlightKeysUptoRow : OpenClaim := { program := "ytafpnkcdoeicgaa", sum := "728788d0e2e44132a273198bd819f0f33ef087cba8bce6617bc5894ea8d67a9b", func := "loop.example/waitkit/laws.FnFlightKeys", spec := "fnFlightKeys", inPlace := ["slices.overlaps[loop.example/waitkit/impl.Flight]"], unfollowed := true, recurses := true, apart := false, narrowed := true }
def FnFlightKeysUptoSaid : Prop := fnFlightKeysUptoRow.holds Try.pinned (OpenSpec.upto fnFlightKeysSpec)

/-- 'laws.FnLandAll', WHERE WHAT IT READS IS OF BULK AT MOST 1048576: true; the input reads as it did. -/
def fnLandAllUptoRow : OpenClaim := { program := "ytafpnkcdoeicgaa", sum := "728788d0e2e44132a273198bd819f0f33ef087cba8bce6617bc5894ea8d67a9b", func := "loop.example/waitkit/laws.FnLandAll", spec := "fnLandAll", inPlace := ["slices.overlaps[loop.example/waitkit/impl.Flight]"], unfollowed := true, recurses := true, apart := false, narrowed := true }
def FnLandAllUptoSaid : Prop := fnLandAllUptoRow.holds Try.pinned (OpenSpec.upto fnLandAllSpec)

/-- 'laws.FnJoinFlight', WHERE WHAT IT READS IS OF BULK AT MOST 1048576: true; the input reads as it did. -/
def fnJoinFlightUptoRow : OpenClaim := { program := "ytafpnkcdoeicgaa", sum := "728788d0e2e44132a273198bd819f0f33ef087cba8bce6617bc5894ea8d67a9b", func := "loop.example/waitkit/laws.FnJoinFlight", spec := "fnJoinFlight", inPlace := ["slices.overlaps[loop.example/waitkit/impl.Flight]"], unfollowed := true, recurses := true, apart := false, narrowed := true }
def FnJoinFlightUptoSaid : Prop := fnJoinFlightUptoRow.holds Try.pinned (OpenSpec.upto fnJoinFlightSpec)

end Rows
end Go.Proofs.Ytafpnkcdoeicgaa
