/- The document's things as the program's. -/
import Derived.Test.YtbclfjdamklbpaaQ2
namespace Go.Proofs.Ytbclfjdamklbpaa
open Go.RowKit

theorem st_one {n : Int} {t : List Int} {A : Option Addr} {N C : Nat} : ∀ x ∈ staC n t (.slice A N C), x.oneCell' = true := by
  intro x hx
  simp only [staC, List.mem_cons, List.mem_append, List.not_mem_nil, or_false] at hx
  rcases hx with hx | rfl | rfl
  · exact dl_one _ _ hx
  all_goals rfl
theorem ac_one {n : Int} {t v : List Int} {A : Option Addr} {N C : Nat} : ∀ x ∈ actC n t v (.slice A N C), x.oneCell' = true := by
  intro x hx
  simp only [actC, List.mem_cons, List.mem_append, List.not_mem_nil, or_false] at hx
  rcases hx with hx | rfl | hx | rfl
  · exact dl_one _ _ hx
  · rfl
  · exact dl_one _ _ hx
  · rfl
theorem th_one {k n m : Int} {t u v : List Int} {A B E : Option Addr} {N C M D O F : Nat} : ∀ x ∈ thC k n m t u v (.slice A N C) (.slice B M D) (.slice E O F), x.oneCell' = true := by
  intro x hx
  simp only [thC, List.mem_cons, List.mem_append, List.not_mem_nil, or_false] at hx
  rcases hx with rfl | hx | hx | rfl
  · rfl
  · exact st_one _ hx
  · exact ac_one _ hx
  · rfl
theorem z_th : (#[.int .i64 0, .int .u8 0, .int .u8 0, .int .u8 0, .int .u8 0, .int .u8 0, .int .u8 0, .int .u8 0, .int .u8 0, .int .i64 0, .slice none 0 0, .int .u8 0, .int .u8 0, .int .u8 0, .int .u8 0, .int .u8 0, .int .u8 0, .int .u8 0, .int .u8 0, .int .i64 0, .int .u8 0, .int .u8 0, .int .u8 0, .int .u8 0, .int .u8 0, .int .u8 0, .int .u8 0, .int .u8 0, .slice none 0 0, .slice none 0 0] : Array Value) = (thC 0 0 0 zeroD zeroD zeroD (.slice none 0 0) (.slice none 0 0) (.slice none 0 0)).toArray := rfl
/-- What 'Of' makes: the state's and the act's parts. -/
structure OfR (w : World) (k n : Int) (t v : List Int) (b s : Value) (o : Bool) (e : Ending) (w' : World) : Prop where
  ret : if k = 0 then e = .returned (.agg (thC k n (if o then 1 else 0) t zeroD zeroD b (.slice none 0 0) s).toArray)
    else ∃ p, e = .returned (.agg (thC k 0 n zeroD t v p b s).toArray) ∧ (if o then ∃ g, p = .slice (some ⟨g, 0, none⟩) 1 1 ∧ w.heap.size ≤ g ∧ Bk w' g 5 [.int .u8 0] else p = .slice none 0 0)
  bel : Below w.heap.size w w'

end Go.Proofs.Ytbclfjdamklbpaa
