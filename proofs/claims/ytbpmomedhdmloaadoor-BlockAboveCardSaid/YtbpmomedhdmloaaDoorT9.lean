/- Roots beside paths: the document's. -/
import Derived.Test.YtbpmomedhdmloaaDoorT8
namespace Go.Proofs.YtbpmomedhdmloaaDoor
open Go.RowKit

end Go.Proofs.YtbpmomedhdmloaaDoor
