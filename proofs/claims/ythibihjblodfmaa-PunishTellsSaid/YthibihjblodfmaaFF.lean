/- Start, opened: stakes and a height. -/
import Derived.Test.YthibihjblodfmaaFrame2
namespace Go.Proofs.Ythibihjblodfmaa
open Go.ChangeShapes Go.WideShapes Go.ChangeAt Go.RowKit Go.Joins Go.Deep

theorem rd_int {H : Type} {enc : TypeId × Value → H} {P : Program} {W : World} {e : TypeId} {k : IntKind} (he : P.underlying e = some (.int k)) : RdAs enc P W e (fun z => [.int k z]) (fun z => (Lit.int k z).wf = true) := by
  intro n cs y h
  obtain ⟨z, rfl, _, hz⟩ := DataW.trod_int he h
  exact ⟨z, rfl, hz⟩
end Go.Proofs.Ythibihjblodfmaa
