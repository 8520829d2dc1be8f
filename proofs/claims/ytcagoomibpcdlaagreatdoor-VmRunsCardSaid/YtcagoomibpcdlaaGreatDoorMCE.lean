import Derived.Test.YtcagoomibpcdlaaGreatDoorMAV
import Derived.Test.YtcagoomibpcdlaaGreatDoorMBA
set_option maxHeartbeats 16000000
namespace Go.Proofs.YtcagoomibpcdlaaGreatDoor
open _root_.Go.Proofs.Tryz
open Go.Sx Go.Vm
def zCs(m:Img): D:=.agg [.slice (m.pool.map enCn),.slice (m.code.map enIn)]
