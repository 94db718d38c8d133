/- ARun1 -/
import Derived.Test.YtajpdafdickapaaGreatDoorA27
set_option linter.all false
set_option maxRecDepth 100000
set_option maxHeartbeats 8000000
namespace Go.Proofs.YtajpdafdickapaaGreatDoor
noncomputable section
open Go Go.TI
def a4:List T:=[l4,dD]
def r4:T:=(.tuple [(.agg [l1,dD,dD,dD,(.dK [(.str [116]),(.str [117])] false),l2,l5]),(.agg [dD,(Z (.negSucc 0)),dD,(.dK [l6,l6] false),(.dK [(Z 2)] false),dD,(.dK [(.agg [(Z 3),(.dK [(Z 1)] false),(.dK [dD] false),(Z 4)]),(.agg [(Z 2),(.dK [(Z 2)] false),(.dK [dD] false),(Z 3)])] false)])])
def aet:xY ((58,[])::t4) ft 100000 58 a4 ⟨0,0,[]⟩=some (r4,⟨0,0,[]⟩):=dG
abbrev es5:List (List T×T):=(a4,r4)::[]
abbrev t5:vN:=(58,es5)::t4
def p5:yI Tryz.prog cx t5:=yI.next JT (yI.new (f:=58) p4) dG aet
def a5:List T:=[(.agg [l1,dD,dD,dD,(.dK [(.str [116]),(.str [117])] false),l2,(Z 0),dD,(Z (.negSucc 0)),dD,(.dK [(.agg [(Z 1),(Z 0),(.bool false)]),(.agg [(Z 0),(Z 0),(.bool false)])] false),(.dK [(Z 0)] false),dD,(.dK [(Z 0),(Z 0)] false),l5])]
def r5:T:=(.dK [(.agg [(Z 1),(Z 2),(Z 5),(Z 0),(Z 0),dD])] false)
def aes:xY ((27,[])::t5) ft 100000 27 a5 ⟨0,0,[]⟩=some (r5,⟨0,0,[]⟩):=dG
abbrev es6:List (List T×T):=(a5,r5)::[]
abbrev t6:vN:=(27,es6)::t5
def p6:yI Tryz.prog cx t6:=yI.next JT (yI.new (f:=27) p5) dG aes
