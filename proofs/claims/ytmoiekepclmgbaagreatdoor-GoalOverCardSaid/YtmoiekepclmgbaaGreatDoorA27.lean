/- ARun0 -/
import Derived.Test.YtmoiekepclmgbaaGreatDoorA26
set_option linter.all false
set_option maxRecDepth 100000
set_option maxHeartbeats 0
namespace Go.Proofs.YtmoiekepclmgbaaGreatDoor
noncomputable section
open Go Go.TI
def ft:aj->aa sw:=λa=>qs.find a
abbrev t0:xF:=[]
def p0:Aw Tryz.prog cx t0:= .nil
def a0:List T:=[(.str [118,97,114,32,120,59,32,116,104,114,101,97,100,32,116,40,41,32,123,32,115,112,97,119,110,32,117,59,32,120,32,61,32,49,59,32,125,32,116,104,114,101,97,100,32,117,40,41,32,123,32,120,32,61,32,50,59,32,125])]
def r0:T:=(.tuple [l0,(G 0),(G 0)])
def ahb:zG ((74,[])::t0) ft 100000 74 a0 ⟨0,0,[]⟩=some (r0,⟨0,0,[]⟩):=dU
abbrev es1:List (List T×T):=(a0,r0)::[]
abbrev t1:xF:=(74,es1)::t0
def p1:Aw Tryz.prog cx t1:=Aw.next LQ (Aw.new (f:=74) p0) dU ahb
def a1:List T:=[l0]
def r1:T:=(.tuple [l4,(G 0),(G 0)])
def aha:zG ((75,[])::t1) ft 100000 75 a1 ⟨0,0,[]⟩=some (r1,⟨0,0,[]⟩):=dU
abbrev Di:List (List T×T):=(a1,r1)::[]
abbrev t2:xF:=(75,Di)::t1
def p2:Aw Tryz.prog cx t2:=Aw.next LQ (Aw.new (f:=75) p1) dU aha
def a2:List T:=[(.agg [l1,dR,dR,dR,(.ed [(.str [116]),(.str [117])] false),l2])]
def r2:T:=(.bool true)
def ag9:zG ((81,[])::t2) ft 100000 81 a2 ⟨0,0,[]⟩=some (r2,⟨0,0,[]⟩):=dU
abbrev es3:List (List T×T):=(a2,r2)::[]
abbrev t3:xF:=(81,es3)::t2
def p3:Aw Tryz.prog cx t3:=Aw.next LQ (Aw.new (f:=81) p2) dU ag9
def a3:List T:=[l4]
def r3:T:=(.bool true)
def ag8:zG ((88,[])::t3) ft 100000 88 a3 ⟨0,0,[]⟩=some (r3,⟨0,0,[]⟩):=dU
abbrev es4:List (List T×T):=(a3,r3)::[]
abbrev t4:xF:=(88,es4)::t3
def p4:Aw Tryz.prog cx t4:=Aw.next LQ (Aw.new (f:=88) p3) dU ag8
