/- ARun0 -/
import Derived.Test.YtajpdafdickapaaGreatDoorA26
set_option linter.all false
set_option maxRecDepth 100000
set_option maxHeartbeats 8000000
namespace Go.Proofs.YtajpdafdickapaaGreatDoor
noncomputable section
open Go Go.TI
def ft:aj->aa qN:=λa=>qs.find a
abbrev t0:vN:=[]
def p0:yI Tryz.prog cx t0:= .nil
def a0:List T:=[(.str [118,97,114,32,120,59,32,116,104,114,101,97,100,32,116,40,41,32,123,32,115,112,97,119,110,32,117,59,32,120,32,61,32,49,59,32,125,32,116,104,114,101,97,100,32,117,40,41,32,123,32,120,32,61,32,50,59,32,125])]
def r0:T:=(.tuple [l0,(Z 0),(Z 0)])
def aex:xY ((56,[])::t0) ft 100000 56 a0 ⟨0,0,[]⟩=some (r0,⟨0,0,[]⟩):=dG
abbrev es1:List (List T×T):=(a0,r0)::[]
abbrev t1:vN:=(56,es1)::t0
def p1:yI Tryz.prog cx t1:=yI.next JT (yI.new (f:=56) p0) dG aex
def a1:List T:=[l0]
def r1:T:=(.tuple [l4,(Z 0),(Z 0)])
def aew:xY ((57,[])::t1) ft 100000 57 a1 ⟨0,0,[]⟩=some (r1,⟨0,0,[]⟩):=dG
abbrev LV:List (List T×T):=(a1,r1)::[]
abbrev t2:vN:=(57,LV)::t1
def p2:yI Tryz.prog cx t2:=yI.next JT (yI.new (f:=57) p1) dG aew
def a2:List T:=[(.agg [l1,dD,dD,dD,(.dK [(.str [116]),(.str [117])] false),l2])]
def r2:T:=(.bool true)
def aev:xY ((81,[])::t2) ft 100000 81 a2 ⟨0,0,[]⟩=some (r2,⟨0,0,[]⟩):=dG
abbrev es3:List (List T×T):=(a2,r2)::[]
abbrev t3:vN:=(81,es3)::t2
def p3:yI Tryz.prog cx t3:=yI.next JT (yI.new (f:=81) p2) dG aev
def a3:List T:=[l4]
def r3:T:=(.bool true)
def aeu:xY ((88,[])::t3) ft 100000 88 a3 ⟨0,0,[]⟩=some (r3,⟨0,0,[]⟩):=dG
abbrev es4:List (List T×T):=(a3,r3)::[]
abbrev t4:vN:=(88,es4)::t3
def p4:yI Tryz.prog cx t4:=yI.next JT (yI.new (f:=88) p3) dG aeu
