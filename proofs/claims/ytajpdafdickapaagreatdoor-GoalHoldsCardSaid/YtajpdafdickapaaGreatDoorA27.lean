/- ARun0 -/
import Derived.Test.YtajpdafdickapaaGreatDoorA26
set_option linter.all false
set_option maxRecDepth 100000
set_option maxHeartbeats 8000000
namespace Go.Proofs.YtajpdafdickapaaGreatDoor
noncomputable section
open Go Go.TI
def ft:aj->aa qT:=λa=>qs.find a
abbrev t0:v7:=[]
def p0:yR Tryz.prog cx t0:= .nil
def a0:List T:=[(.str [118,97,114,32,120,59,32,116,104,114,101,97,100,32,116,40,41,32,123,32,115,112,97,119,110,32,117,59,32,120,32,61,32,49,59,32,125,32,116,104,114,101,97,100,32,117,40,41,32,123,32,120,32,61,32,50,59,32,125])]
def r0:T:=(.tuple [l0,(Z 0),(Z 0)])
def afn:yj ((56,[])::t0) ft 100000 56 a0 ⟨0,0,[]⟩=some (r0,⟨0,0,[]⟩):=dG
abbrev es1:List (List T×T):=(a0,r0)::[]
abbrev t1:v7:=(56,es1)::t0
def p1:yR Tryz.prog cx t1:=yR.next Kt (yR.new (f:=56) p0) dG afn
def a1:List T:=[l0]
def r1:T:=(.tuple [l4,(Z 0),(Z 0)])
def afm:yj ((57,[])::t1) ft 100000 57 a1 ⟨0,0,[]⟩=some (r1,⟨0,0,[]⟩):=dG
abbrev Ey:List (List T×T):=(a1,r1)::[]
abbrev t2:v7:=(57,Ey)::t1
def p2:yR Tryz.prog cx t2:=yR.next Kt (yR.new (f:=57) p1) dG afm
def a2:List T:=[(.agg [l1,dD,dD,dD,(.dK [(.str [116]),(.str [117])] false),l2])]
def r2:T:=(.bool true)
def afl:yj ((81,[])::t2) ft 100000 81 a2 ⟨0,0,[]⟩=some (r2,⟨0,0,[]⟩):=dG
abbrev es3:List (List T×T):=(a2,r2)::[]
abbrev t3:v7:=(81,es3)::t2
def p3:yR Tryz.prog cx t3:=yR.next Kt (yR.new (f:=81) p2) dG afl
def a3:List T:=[l4]
def r3:T:=(.bool true)
def afk:yj ((88,[])::t3) ft 100000 88 a3 ⟨0,0,[]⟩=some (r3,⟨0,0,[]⟩):=dG
abbrev es4:List (List T×T):=(a3,r3)::[]
abbrev t4:v7:=(88,es4)::t3
def p4:yR Tryz.prog cx t4:=yR.next Kt (yR.new (f:=88) p3) dG afk
