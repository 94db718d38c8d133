/- ARun0 -/
import Derived.Test.YtbappgeamhmmbaaGreatDoorA30
set_option linter.all false
set_option maxRecDepth 100000
set_option maxHeartbeats 0
namespace Go.Proofs.YtbappgeamhmmbaaGreatDoor
noncomputable section
open Go Go.TI
def ft:aj->aa oq:=λa=>qs.find a
abbrev t0:us:=[]
def p0:wy Tryz.prog cx t0:= .nil
def a0:List T:=[(.str [118,97,114,32,120,59,32,116,104,114,101,97,100,32,116,40,41,32,123,32,115,112,97,119,110,32,117,59,32,120,32,61,32,49,59,32,125,32,116,104,114,101,97,100,32,117,40,41,32,123,32,120,32,61,32,50,59,32,125])]
def r0:T:=(.tuple [l0,(D 0),(D 0)])
def aeN:vx ((60,[])::t0) ft 100000 60 a0 ⟨0,0,[]⟩=some (r0,⟨0,0,[]⟩):=dz
abbrev es1:List (List T×T):=(a0,r0)::[]
abbrev t1:us:=(60,es1)::t0
def p1:wy Tryz.prog cx t1:=wy.next F1 (wy.new (f:=60) p0) dz aeN
def a1:List T:=[l0]
def r1:T:=(.tuple [l4,(D 0),(D 0)])
def aeM:vx ((61,[])::t1) ft 100000 61 a1 ⟨0,0,[]⟩=some (r1,⟨0,0,[]⟩):=dz
abbrev Kb:List (List T×T):=(a1,r1)::[]
abbrev t2:us:=(61,Kb)::t1
def p2:wy Tryz.prog cx t2:=wy.next F1 (wy.new (f:=61) p1) dz aeM
def a2:List T:=[(.agg [l1,dw,dw,dw,(.Y [(.str [116]),(.str [117])] false),l2])]
def r2:T:=(.bool true)
def aeL:vx ((68,[])::t2) ft 100000 68 a2 ⟨0,0,[]⟩=some (r2,⟨0,0,[]⟩):=dz
abbrev es3:List (List T×T):=(a2,r2)::[]
abbrev t3:us:=(68,es3)::t2
def p3:wy Tryz.prog cx t3:=wy.next F1 (wy.new (f:=68) p2) dz aeL
def a3:List T:=[l4]
def r3:T:=(.bool true)
def aeK:vx ((75,[])::t3) ft 100000 75 a3 ⟨0,0,[]⟩=some (r3,⟨0,0,[]⟩):=dz
abbrev es4:List (List T×T):=(a3,r3)::[]
abbrev t4:us:=(75,es4)::t3
def p4:wy Tryz.prog cx t4:=wy.next F1 (wy.new (f:=75) p3) dz aeK
