/- Texts ARun0 to ARun0. -/
import Derived.Test.YtmaeadedikngoaaGreatDoorA37
set_option linter.all false
set_option maxRecDepth 100000
set_option maxHeartbeats 8000000
namespace Go.Proofs.YtmaeadedikngoaaGreatDoor
noncomputable section
open Go Go.TI
def ft:aj->aa qp:=λa=>qs.find a
abbrev t0:vk:=[]
def p0:yf Tryz.prog cx t0:= .nil
def a0:List T:=[(.str [118,97,114,32,120,59,32,116,104,114,101,97,100,32,116,40,41,32,123,32,115,112,97,119,110,32,117,59,32,120,32,61,32,49,59,32,125,32,116,104,114,101,97,100,32,117,40,41,32,123,32,120,32,61,32,50,59,32,125])]
def r0:T:=(.tuple [l0,(dE 0),(dE 0)])
def adQ:xp ((58,[])::t0) ft 100000 58 a0 ⟨0,0,[]⟩=some (r0,⟨0,0,[]⟩):=dI
abbrev es1:List (List T×T):=(a0,r0)::[]
abbrev t1:vk:=(58,es1)::t0
def p1:yf Tryz.prog cx t1:=yf.next Ji (yf.new (f:=58) p0) dI adQ
def a1:List T:=[l0]
def r1:T:=(.tuple [l4,(dE 0),(dE 0)])
def adP:xp ((59,[])::t1) ft 100000 59 a1 ⟨0,0,[]⟩=some (r1,⟨0,0,[]⟩):=dI
abbrev wU:List (List T×T):=(a1,r1)::[]
abbrev t2:vk:=(59,wU)::t1
def p2:yf Tryz.prog cx t2:=yf.next Ji (yf.new (f:=59) p1) dI adP
def a2:List T:=[(.agg [l1,dF,dF,dF,(.dM [(.str [116]),(.str [117])] false),l2])]
def r2:T:=(.bool true)
def adO:xp ((67,[])::t2) ft 100000 67 a2 ⟨0,0,[]⟩=some (r2,⟨0,0,[]⟩):=dI
abbrev es3:List (List T×T):=(a2,r2)::[]
abbrev t3:vk:=(67,es3)::t2
def p3:yf Tryz.prog cx t3:=yf.next Ji (yf.new (f:=67) p2) dI adO
def a3:List T:=[l4]
def r3:T:=(.bool true)
def adN:xp ((74,[])::t3) ft 100000 74 a3 ⟨0,0,[]⟩=some (r3,⟨0,0,[]⟩):=dI
abbrev es4:List (List T×T):=(a3,r3)::[]
abbrev t4:vk:=(74,es4)::t3
def p4:yf Tryz.prog cx t4:=yf.next Ji (yf.new (f:=74) p3) dI adN
end
end Go.Proofs.YtmaeadedikngoaaGreatDoor
