/- Digests: a digest with a word. -/
import Derived.Test.YthibihjblodfmaaH8
namespace Go.Proofs.Ythibihjblodfmaa
open Go.RowKit

def wordI (d : List Int) (text : List Int) : List Int := outI (bytesI (takeI (beginI 4) (numG d)) text)
theorem wordI_ok (d text : List Int) : DgOk (wordI d text) := outI_ok _

end Go.Proofs.Ythibihjblodfmaa
