/- The walks of the wire's reader. -/
import Derived.Test.YtinmmamnldephaaDoorWW
namespace Go.Proofs.YtinmmamnldephaaDoor
open Go Go.RowKit Go.Alm










end Go.Proofs.YtinmmamnldephaaDoor
