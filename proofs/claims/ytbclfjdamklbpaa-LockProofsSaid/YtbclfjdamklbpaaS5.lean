/- The document's bytes of a state, of an act and of a payout. -/
import Derived.Test.YtbclfjdamklbpaaS4
import Derived.Test.YtbclfjdamklbpaaOC
namespace Go.Proofs.Ytbclfjdamklbpaa
open Go.RowKit

theorem RetB.cast {base : Nat} {xs ys : List Int} {w w' : World} {e : Ending} (h : RetB base xs w e w') (he : xs = ys) : RetB base ys w e w' := he ▸ h
theorem own_cat {w : World} {base s : Nat} {t : TypeId} {v : Value} {xs ys zs : List Int} {f : Int → Value} (h : w.ownsRow base t s v (xs.length + ys.length) (xs.map f ++ ys.map f)) (he : xs ++ ys = zs) : w.ownsRow base t s v zs.length (zs.map f) := by
  subst he; rw [List.length_append, List.map_append]; exact h
theorem lst_is {n : Nat} {x : List Int} (h : x.length = n) : numB n ++ x = lstB x := by rw [lstB, h]

theorem stop_here {P : Program} {ops : Array Oper} {rest : List Oper} {a : Act} {w : World} {Q : Exit → Act → World → Prop} (h : StopD (wpList P ops Q rest a w)) : wpList P ops Q rest a w := h
end Go.Proofs.Ytbclfjdamklbpaa
