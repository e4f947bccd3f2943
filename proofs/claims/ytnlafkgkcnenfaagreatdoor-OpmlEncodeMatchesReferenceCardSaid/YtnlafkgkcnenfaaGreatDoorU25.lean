/- Parts of the proof: contracts and plain laws. -/
import Derived.Test.YtnlafkgkcnenfaaGreatDoorU11
namespace Go.Proofs.YtnlafkgkcnenfaaGreatDoor
open Go Go.RowKit _root_.Go.Proofs.Tryz
set_option linter.unusedVariables false
set_option linter.unusedSimpArgs false
set_option maxRecDepth 100000
set_option maxHeartbeats 16000000
section
variable {j:Nat}
theorem Zr8 {l:List Nc} (h:j<l.length):(Nc.nds l).take (j+1)=(Nc.nds l).take j++ [l[j].nd]:=by
 rw[Je,Zr (by rw[Zq];exact h),Xn]
end
end Go.Proofs.YtnlafkgkcnenfaaGreatDoor
