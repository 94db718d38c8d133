/- Texts ARun0 to ARun0. -/
import Derived.Test.YtmaeadedikngoaaGreatDoorA41
set_option linter.unusedVariables false
set_option linter.unusedSimpArgs false
set_option linter.defProp false
set_option maxRecDepth 100000
set_option maxHeartbeats 8000000
namespace Go.Proofs.YtmaeadedikngoaaGreatDoor
noncomputable section
open Go Go.TI
def ft:aj->aa pF:=λa=>qs.find a
abbrev t0:uC:=[]
def p0:xr Tryz.prog cx t0:= .nil
def a0:List T:=[(.str [118,97,114,32,120,59,32,116,104,114,101,97,100,32,116,40,41,32,123,32,115,112,97,119,110,32,117,59,32,120,32,61,32,49,59,32,125,32,116,104,114,101,97,100,32,117,40,41,32,123,32,120,32,61,32,50,59,32,125])]
def r0:T:=(.tuple [l0,(dw 0),(dw 0)])
def abX:wD ((58,[])::t0) ft 100000 58 a0 ⟨0,0,[]⟩=some (r0,⟨0,0,[]⟩):=by kernel_rfl
abbrev ZO:List (List T×T):=(a0,r0)::[]
abbrev t1:uC:=(58,ZO)::t0
def p1:xr Tryz.prog cx t1:=xr.next Ia (xr.new (f:=58) p0) (by kernel_rfl) abX
def a1:List T:=[l0]
def r1:T:=(.tuple [l4,(dw 0),(dw 0)])
def abW:wD ((59,[])::t1) ft 100000 59 a1 ⟨0,0,[]⟩=some (r1,⟨0,0,[]⟩):=by kernel_rfl
abbrev J6:List (List T×T):=(a1,r1)::[]
abbrev t2:uC:=(59,J6)::t1
def p2:xr Tryz.prog cx t2:=xr.next Ia (xr.new (f:=59) p1) (by kernel_rfl) abW
def a2:List T:=[(.agg [l1,dx,dx,dx,(.dC [(.str [116]),(.str [117])] false),l2])]
def r2:T:=(.bool true)
def abV:wD ((67,[])::t2) ft 100000 67 a2 ⟨0,0,[]⟩=some (r2,⟨0,0,[]⟩):=by kernel_rfl
abbrev es3:List (List T×T):=(a2,r2)::[]
abbrev t3:uC:=(67,es3)::t2
def p3:xr Tryz.prog cx t3:=xr.next Ia (xr.new (f:=67) p2) (by kernel_rfl) abV
def a3:List T:=[l4]
def r3:T:=(.bool true)
def abU:wD ((74,[])::t3) ft 100000 74 a3 ⟨0,0,[]⟩=some (r3,⟨0,0,[]⟩):=by kernel_rfl
abbrev es4:List (List T×T):=(a3,r3)::[]
abbrev t4:uC:=(74,es4)::t3
def p4:xr Tryz.prog cx t4:=xr.next Ia (xr.new (f:=74) p3) (by kernel_rfl) abU
end
end Go.Proofs.YtmaeadedikngoaaGreatDoor
