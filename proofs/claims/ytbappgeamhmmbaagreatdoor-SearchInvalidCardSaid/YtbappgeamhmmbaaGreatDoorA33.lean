/- ARun2 -/
import Derived.Test.YtbappgeamhmmbaaGreatDoorA32
set_option linter.all false
set_option maxRecDepth 100000
set_option maxHeartbeats 0
namespace Go.Proofs.YtbappgeamhmmbaaGreatDoor
noncomputable section
open Go Go.TI
def a6:List T:=[l7,l8]
def r6:T:=(.tuple [(.Y [l9,l9,(.agg [(D 1),(D (.negSucc 0))])] false),(.bool true)])
def aeH:vx ((6,[])::t6) ft 100000 6 a6 ⟨0,0,[]⟩=some (r6,⟨0,0,[]⟩):=dz
abbrev es7:List (List T×T):=(a6,r6)::[]
abbrev t7:us:=(6,es7)::t6
def p7:wy Tryz.prog cx t7:=wy.next F1 (wy.new (f:=6) p6) dz aeH
