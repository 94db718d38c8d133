/- ARun0 -/
import Derived.Test.YtalknpnbaceflaaGreatDoorA26
set_option linter.all false
set_option maxRecDepth 100000
set_option maxHeartbeats 0
namespace Go.Proofs.YtalknpnbaceflaaGreatDoor
noncomputable section
open Go Go.TI
def ft:ak->aa tH:=λa=>qs.find a
abbrev t0:yi:=[]
def p0:Ba Tryz.prog cx t0:= .nil
def a0:List T:=[(.str [118,97,114,32,120,59,32,116,104,114,101,97,100,32,116,40,41,32,123,32,115,112,97,119,110,32,117,59,32,120,32,61,32,49,59,32,125,32,116,104,114,101,97,100,32,117,40,41,32,123,32,120,32,61,32,50,59,32,125])]
def r0:T:=(.tuple [l0,(C 0),(C 0)])
def ahU:Ay ((75,[])::t0) ft 100000 75 a0 ⟨0,0,[]⟩=some (r0,⟨0,0,[]⟩):=dY
abbrev es1:List (List T×T):=(a0,r0)::[]
abbrev t1:yi:=(75,es1)::t0
def p1:Ba Tryz.prog cx t1:=Ba.next MO (Ba.new (f:=75) p0) dY ahU
def a1:List T:=[l0]
def r1:T:=(.tuple [l4,(C 0),(C 0)])
def ahT:Ay ((76,[])::t1) ft 100000 76 a1 ⟨0,0,[]⟩=some (r1,⟨0,0,[]⟩):=dY
abbrev Ea:List (List T×T):=(a1,r1)::[]
abbrev t2:yi:=(76,Ea)::t1
def p2:Ba Tryz.prog cx t2:=Ba.next MO (Ba.new (f:=76) p1) dY ahT
def a2:List T:=[(.eZ [l1,dV,dV,dV,(.V [(.str [116]),(.str [117])] false),l2])]
def r2:T:=(.ez true)
def ahS:Ay ((83,[])::t2) ft 100000 83 a2 ⟨0,0,[]⟩=some (r2,⟨0,0,[]⟩):=dY
abbrev es3:List (List T×T):=(a2,r2)::[]
abbrev t3:yi:=(83,es3)::t2
def p3:Ba Tryz.prog cx t3:=Ba.next MO (Ba.new (f:=83) p2) dY ahS
def a3:List T:=[l4]
def r3:T:=(.ez true)
def ahR:Ay ((90,[])::t3) ft 100000 90 a3 ⟨0,0,[]⟩=some (r3,⟨0,0,[]⟩):=dY
abbrev es4:List (List T×T):=(a3,r3)::[]
abbrev t4:yi:=(90,es4)::t3
def p4:Ba Tryz.prog cx t4:=Ba.next MO (Ba.new (f:=90) p3) dY ahR
