/- Parts of the proof: contracts and plain laws. -/
import Derived.Shelf.SlSortCmp.NoneTotal
import Derived.Test.YtnlafkgkcnenfaaGreatDoorT19
namespace Go.Proofs.YtnlafkgkcnenfaaGreatDoor
open Go.Shelf Tryz
set_option linter.unusedVariables false
set_option linter.unusedSimpArgs false
set_option linter.unusedSimpArgs false
set_option maxRecDepth 100000
set_option maxHeartbeats 16000000
open Go.RowKit Go.Lib Go.Sort in
theorem slices_SortFunc_none_f69 {α:Type} [Inhabited α] (p:Option Addr) (cap:Nat) (h:Value) (w:Wq):
 Calls prog 69 #[.slice p 0 cap,h] w λe w'=>e= .returned (.tuple #[])/\w'=w:=AnyF.slices_SortFunc_none laysSlF06_f69 p cap h w
open Go.RowKit Go.Lib Go.Sort in
theorem slices_SortFunc_none_f113 {α:Type} [Inhabited α] (p:Option Addr) (cap:Nat) (h:Value) (w:Wq):
 Calls prog 113 #[.slice p 0 cap,h] w λe w'=>e= .returned (.tuple #[])/\w'=w:=AnyF.slices_SortFunc_none laysSlF06_f113 p cap h w
end Go.Proofs.YtnlafkgkcnenfaaGreatDoor
