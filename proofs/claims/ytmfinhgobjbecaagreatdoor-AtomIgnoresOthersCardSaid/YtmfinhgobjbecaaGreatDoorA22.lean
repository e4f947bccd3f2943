/- Parts of the proof: contracts and plain laws. -/
import Derived.Test.YtmfinhgobjbecaaGreatDoorA17
namespace Go.Proofs.YtmfinhgobjbecaaGreatDoor
open Go _root_.Go.Proofs.Tryz
set_option linter.unusedVariables false
set_option linter.unusedSimpArgs false
set_option maxRecDepth 100000
set_option maxHeartbeats 16000000
theorem Vy {f:Fd} (h:f.path= []):(normF f).path= []:=by
 unfold normF;split
 ·unfold collF;simp[h]
 ·rfl
end Go.Proofs.YtmfinhgobjbecaaGreatDoor
