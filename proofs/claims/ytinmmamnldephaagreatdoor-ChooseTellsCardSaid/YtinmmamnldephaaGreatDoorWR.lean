/- The walks of the wire's reader. -/
import Derived.Test.YtinmmamnldephaaGreatDoorWW
namespace Go.Proofs.YtinmmamnldephaaGreatDoor
open Go Go.RowKit Go.Alm










end Go.Proofs.YtinmmamnldephaaGreatDoor
