/- Parts of the proof: contracts and plain laws. -/
import Derived.Deep.MidRow
import Derived.Lib.AppendZerosOnto
import Derived.Lib.SliceRun
import Derived.Test.YtmfinhgobjbecaaGreatDoorA05
namespace Go.Proofs.YtmfinhgobjbecaaGreatDoor
open Go _root_.Go.Proofs.Tryz
set_option linter.unusedVariables false
set_option linter.unusedSimpArgs false
set_option maxRecDepth 100000
set_option maxHeartbeats 16000000
def pk {α:Type} (c:α->α->Int) (a b:α):α:=if c a b<0 then b else a
end Go.Proofs.YtmfinhgobjbecaaGreatDoor
