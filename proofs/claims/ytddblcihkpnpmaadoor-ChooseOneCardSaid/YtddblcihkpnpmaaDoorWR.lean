/- The walks of the wire's reader. -/
import Derived.Test.YtddblcihkpnpmaaDoorWW
namespace Go.Proofs.YtddblcihkpnpmaaDoor
open Go Go.RowKit Go.Alm










end Go.Proofs.YtddblcihkpnpmaaDoor
