/- Lists of digests, compared. -/
import Derived.Test.YtbpmomedhdmloaaDoorT7
namespace Go.Proofs.YtbpmomedhdmloaaDoor
open Go.RowKit

end Go.Proofs.YtbpmomedhdmloaaDoor
