/- The walks of the wire's reader. -/
import Derived.Test.YtokdfjelilhekaaDoorWW
namespace Go.Proofs.YtokdfjelilhekaaDoor
open Go Go.RowKit Go.Alm










end Go.Proofs.YtokdfjelilhekaaDoor
