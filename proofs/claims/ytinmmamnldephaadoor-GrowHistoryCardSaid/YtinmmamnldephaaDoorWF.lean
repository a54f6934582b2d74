/- The walks of layer 4's reference. -/
import Derived.Test.YtinmmamnldephaaDoorWR
import Derived.Test.YtinmmamnldephaaDoorLib2
namespace Go.Proofs.YtinmmamnldephaaDoor
open Go Go.RowKit Go.Alm








end Go.Proofs.YtinmmamnldephaaDoor
