/- The digest of bytes: the program's and the document's. -/
import Derived.Test.YtakfdlokgddaoaaDoorQ1
import Derived.Test.YtakfdlokgddaoaaDoorS1
import Derived.Test.YtakfdlokgddaoaaDoorHB
namespace Go.Proofs.YtakfdlokgddaoaaDoor
open Go.RowKit

def ofI (bs : List Int) : List Int := outI (bytesI (beginI 1) bs)
theorem ofI_ok (bs : List Int) : DgOk (ofI bs) := outI_ok _
theorem r8d_size (ds : List Int) (h : DgOk ds) : (Tryd.prog.info? 22).map (·.size) = some (dl ds).length := by
  have := (rdg_info ds h).out; rwa [dgA_size, ← dl_len ds] at this
theorem hdg_size (ds : List Int) (h : DgOk ds) : (Tryd.prog.info? 23).map (·.size) = some (dl ds).length := by
  have := (dg_info ds h).out; rwa [dgA_size, ← dl_len ds] at this
theorem dl_one' (ds : List Int) : ∀ v ∈ dl ds, v.oneCell' = true := ints_one _ _

end Go.Proofs.YtakfdlokgddaoaaDoor
