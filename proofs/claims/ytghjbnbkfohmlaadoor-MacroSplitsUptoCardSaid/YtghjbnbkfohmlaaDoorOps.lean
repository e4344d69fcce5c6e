/-
  Small words for loads and stores: whether a type's values are aggregates; cells of which some are replaced. No program in sight.
-/
import Derived.Test.YtghjbnbkfohmlaaDoorSep
namespace Go.Proofs.YtghjbnbkfohmlaaDoor
open Go Go.RowKit

section
variable {P : Program}

def isAggT (P : Program) (t : TypeId) : Option Bool :=
  match P.underlying t with
  | some (.struct _) | some (.array _ _) => some true
  | some _ => some false
  | none => none

theorem run_isAgg {t : TypeId} {b : Bool} (h : isAggT P t = some b) (w : World) : (isAgg t).run P w = .ok b w := by
  unfold isAggT at h
  unfold isAgg
  cases hu : P.underlying t with
  | none => simp [hu] at h
  | some d =>
    rw [Sem.run_bind, run_underlying hu w]
    cases d <;> simp_all

/-- cells with some of them replaced -/
def splice (cs : Array Value) (off : Nat) (vs : Array Value) : Array Value := (cs.toList.take off ++ vs.toList ++ cs.toList.drop (off + vs.size)).toArray

theorem size_splice (cs : Array Value) (off : Nat) (vs : Array Value) (h : off + vs.size ≤ cs.size) : (splice cs off vs).size = cs.size := by
  simp [splice]; omega

end
end Go.Proofs.YtghjbnbkfohmlaaDoor
