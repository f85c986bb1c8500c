/- What a thing holds. -/
import Derived.Test.YthibihjblodfmaaQ8
namespace Go.Proofs.Ythibihjblodfmaa

structure Tg where
  k : Int
  n : Int
  m : Int
  t : List Int
  u : List Int
  v : List Int
  ps : List Int
  qs : List Int
  ss : List Int
end Go.Proofs.Ythibihjblodfmaa
