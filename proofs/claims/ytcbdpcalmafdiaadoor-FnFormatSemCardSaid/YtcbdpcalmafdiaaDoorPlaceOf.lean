/- The contracts of PlaceOf. -/
import Derived.Test.YtcbdpcalmafdiaaDoorSemValid
namespace Go.Proofs.YtcbdpcalmafdiaaDoor
open Go.RowKit

/-- What PlaceOf hands back. -/
def place (f l : Int) (ws : List (Int × Int)) (t : Int) : Int × Bool := if sval f l ws = true ∧ t ∈ ws.map Prod.fst then (atF (ws.map Prod.fst) t, true) else (0, false)
theorem place_no1 {f l : Int} {ws : List (Int × Int)} {t : Int} (h : sval f l ws = false) : place f l ws t = (0, false) := by unfold place; rw [if_neg (by rw [h]; simp)]
theorem place_no2 {f l : Int} {ws : List (Int × Int)} {t : Int} (h : t ∉ ws.map Prod.fst) : place f l ws t = (0, false) := by unfold place; rw [if_neg (fun hh => h hh.2)]
theorem place_yes {f l : Int} {ws : List (Int × Int)} {t : Int} (h : sval f l ws = true) (hm : t ∈ ws.map Prod.fst) : place f l ws t = (atF (ws.map Prod.fst) t, true) := by unfold place; rw [if_pos ⟨h, hm⟩]

end Go.Proofs.YtcbdpcalmafdiaaDoor
