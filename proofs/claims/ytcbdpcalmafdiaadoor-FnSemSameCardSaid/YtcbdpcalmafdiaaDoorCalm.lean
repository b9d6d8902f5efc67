/- A region that draws its order, whose calls may make memory but hand back one value whatever the order is: one walk, in the order of the text. -/
import Derived.Test.YtcbdpcalmafdiaaDoorBase
import Derived.BigQuiet
namespace Go.Proofs.YtcbdpcalmafdiaaDoor
open Go.RowKit

/-- The worlds behind w in which S holds. -/
def Calm (S : World → Prop) (w : World) : Type := {x : World // Below w.heap.size w x ∧ S x}
def Calm.at_ {S : World → Prop} {w : World} (n : Calm S w) : World := n.1
theorem Calm.below {S : World → Prop} {w : World} (n : Calm S w) : Below w.heap.size w n.at_ := n.2.1
theorem Calm.holds {S : World → Prop} {w : World} (n : Calm S w) : S n.at_ := n.2.2
theorem wp_region_calm {P : Program} {id : Nat} {Q : Exit → Act → World → Prop} {a : Act} {w : World} {l : List Oper} (S : World → Prop) (hm : P.follows .mixedOrders = true) (hB : Region.lexB .any l.toArray = true)
    (hS : S w) (hp : ∀ w1 w2, S w1 → Below w1.heap.size w1 w2 → S w2)
    (h : Nonempty (Calm S w) → (∀ n : Calm S w, S n.at_) → wpQuiet P l.toArray (fun w' => ∃ n : Calm S w, w' = n.at_) (fun a' => ∀ w', (∃ n : Calm S w, w' = n.at_) → Q .normal a' w') l a) :
    (Code.region id l.toArray true).wp P Q a w :=
  wp_region_quiet (C := fun w' => ∃ n : Calm S w, w' = n.at_) hm hB ⟨⟨w.drew, drew_below w, hp w _ hS (drew_below w)⟩, rfl⟩ (by simpa using h ⟨w, Below.refl _ _, hS⟩ fun n => n.holds)
theorem calm_of {P : Program} {f : FuncId} {args : Array Value} {S : World → Prop} {w : World} {n : Calm S w} {v : Value} (hp : ∀ w1 w2, S w1 → Below w1.heap.size w1 w2 → S w2)
    (h : Calls P f args n.at_ fun e w' => e = .returned v ∧ Below n.at_.heap.size n.at_ w') : Calls P f args n.at_ fun e w'' => e = .returned v ∧ ∃ m : Calm S w, w'' = m.at_ :=
  h.mono fun _ w' ⟨he, hb⟩ => ⟨he, ⟨w', below_trans n.below hb, hp _ _ n.holds hb⟩, rfl⟩
end Go.Proofs.YtcbdpcalmafdiaaDoor
