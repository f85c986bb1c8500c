/- Things as the document's. -/
import Derived.Test.YtbclfjdamklbpaaQ1
namespace Go.Proofs.Ytbclfjdamklbpaa
open Go.RowKit

theorem z_rt : (#[.int .i64 0, .int .u8 0, .int .u8 0, .int .u8 0, .int .u8 0, .int .u8 0, .int .u8 0, .int .u8 0, .int .u8 0, .int .i64 0, .int .u8 0, .int .u8 0, .int .u8 0, .int .u8 0, .int .u8 0, .int .u8 0, .int .u8 0, .int .u8 0, .slice none 0 0, .slice none 0 0, .bool false] : Array Value) = (rtC 0 0 zeroD zeroD (.slice none 0 0) (.slice none 0 0) false).toArray := rfl
theorem dl_one (ds : List Int) : ∀ v ∈ dl ds, v.oneCell' = true := ints_one _ _
theorem rt_one {k n : Int} {t v : List Int} {A B : Option Addr} {N C M D : Nat} {o : Bool} : ∀ x ∈ rtC k n t v (.slice A N C) (.slice B M D) o, x.oneCell' = true := by
  intro x hx
  simp only [rtC, List.mem_cons, List.mem_append, List.not_mem_nil, or_false] at hx
  rcases hx with rfl | hx | rfl | hx | rfl | rfl | rfl
  · rfl
  · exact dl_one _ _ hx
  · rfl
  · exact dl_one _ _ hx
  all_goals rfl

end Go.Proofs.Ytbclfjdamklbpaa
