/- Texts ARun0 to ARun0. -/
import Derived.Test.YtmaeadedikngoaaGreatDoorA36
set_option linter.all false
set_option maxRecDepth 100000
set_option maxHeartbeats 8000000
namespace Go.Proofs.YtmaeadedikngoaaGreatDoor
noncomputable section
open Go Go.TI
def ft:aj->aa qm:=λa=>qs.find a
abbrev t0:vk:=[]
def p0:yd Tryz.prog cx t0:= .nil
def a0:List T:=[(.str [118,97,114,32,120,59,32,116,104,114,101,97,100,32,116,40,41,32,123,32,115,112,97,119,110,32,117,59,32,120,32,61,32,49,59,32,125,32,116,104,114,101,97,100,32,117,40,41,32,123,32,120,32,61,32,50,59,32,125])]
def r0:T:=(.tuple [l0,(dG 0),(dG 0)])
def adD:xn ((58,[])::t0) ft 100000 58 a0 ⟨0,0,[]⟩=some (r0,⟨0,0,[]⟩):=dK
abbrev es1:List (List T×T):=(a0,r0)::[]
abbrev t1:vk:=(58,es1)::t0
def p1:yd Tryz.prog cx t1:=yd.next I9 (yd.new (f:=58) p0) dK adD
def a1:List T:=[l0]
def r1:T:=(.tuple [l4,(dG 0),(dG 0)])
def adC:xn ((59,[])::t1) ft 100000 59 a1 ⟨0,0,[]⟩=some (r1,⟨0,0,[]⟩):=dK
abbrev A4:List (List T×T):=(a1,r1)::[]
abbrev t2:vk:=(59,A4)::t1
def p2:yd Tryz.prog cx t2:=yd.next I9 (yd.new (f:=59) p1) dK adC
def a2:List T:=[(.agg [l1,dH,dH,dH,(.dN [(.str [116]),(.str [117])] false),l2])]
def r2:T:=(.bool true)
def adB:xn ((67,[])::t2) ft 100000 67 a2 ⟨0,0,[]⟩=some (r2,⟨0,0,[]⟩):=dK
abbrev es3:List (List T×T):=(a2,r2)::[]
abbrev t3:vk:=(67,es3)::t2
def p3:yd Tryz.prog cx t3:=yd.next I9 (yd.new (f:=67) p2) dK adB
def a3:List T:=[l4]
def r3:T:=(.bool true)
def adA:xn ((74,[])::t3) ft 100000 74 a3 ⟨0,0,[]⟩=some (r3,⟨0,0,[]⟩):=dK
abbrev es4:List (List T×T):=(a3,r3)::[]
abbrev t4:vk:=(74,es4)::t3
def p4:yd Tryz.prog cx t4:=yd.next I9 (yd.new (f:=74) p3) dK adA
end
end Go.Proofs.YtmaeadedikngoaaGreatDoor
