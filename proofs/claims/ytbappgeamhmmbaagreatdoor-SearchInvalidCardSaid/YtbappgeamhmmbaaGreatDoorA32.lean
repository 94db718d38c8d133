/- ARun1 -/
import Derived.Test.YtbappgeamhmmbaaGreatDoorA31
set_option linter.all false
set_option maxRecDepth 100000
set_option maxHeartbeats 0
namespace Go.Proofs.YtbappgeamhmmbaaGreatDoor
noncomputable section
open Go Go.TI
def a4:List T:=[l4,dw]
def r4:T:=(.tuple [(.agg [l1,dw,dw,dw,(.Y [(.str [116]),(.str [117])] false),l2,l5]),(.agg [dw,(D (.negSucc 0)),dw,(.Y [l6,l6] false),(.Y [(D 2)] false),dw,(.Y [(.agg [(D 3),(.Y [(D 1)] false),(.Y [dw] false),(D 4)]),(.agg [(D 2),(.Y [(D 2)] false),(.Y [dw] false),(D 3)])] false)])])
def aeJ:vx ((62,[])::t4) ft 100000 62 a4 ⟨0,0,[]⟩=some (r4,⟨0,0,[]⟩):=dz
abbrev es5:List (List T×T):=(a4,r4)::[]
abbrev t5:us:=(62,es5)::t4
def p5:wy Tryz.prog cx t5:=wy.next F1 (wy.new (f:=62) p4) dz aeJ
def a5:List T:=[l7]
def r5:T:=(.Y [l8] false)
def aeI:vx ((63,[])::t5) ft 100000 63 a5 ⟨0,0,[]⟩=some (r5,⟨0,0,[]⟩):=dz
abbrev es6:List (List T×T):=(a5,r5)::[]
abbrev t6:us:=(63,es6)::t5
def p6:wy Tryz.prog cx t6:=wy.next F1 (wy.new (f:=63) p5) dz aeI
