/- Texts ARun1 to ARun1. -/
import Derived.Test.YtmaeadedikngoaaGreatDoorA42
set_option linter.unusedVariables false
set_option linter.unusedSimpArgs false
set_option linter.defProp false
set_option maxRecDepth 100000
set_option maxHeartbeats 8000000
namespace Go.Proofs.YtmaeadedikngoaaGreatDoor
noncomputable section
open Go Go.TI
def a4:List T:=[l4,dx]
def r4:T:=(.tuple [(.agg [l1,dx,dx,dx,(.dC [(.str [116]),(.str [117])] false),l2,l5]),(.agg [dx,(dw (.negSucc 0)),dx,(.dC [l6,l6] false),(.dC [(dw 2)] false),dx,(.dC [(.agg [(dw 3),(.dC [(dw 1)] false),(.dC [dx] false),(dw 4)]),(.agg [(dw 2),(.dC [(dw 2)] false),(.dC [dx] false),(dw 3)])] false)])])
def abT:wD ((60,[])::t4) ft 100000 60 a4 ⟨0,0,[]⟩=some (r4,⟨0,0,[]⟩):=by kernel_rfl
abbrev es5:List (List T×T):=(a4,r4)::[]
abbrev t5:uC:=(60,es5)::t4
def p5:xr Tryz.prog cx t5:=xr.next Ia (xr.new (f:=60) p4) (by kernel_rfl) abT
def a5:List T:=[(.agg [l1,dx,dx,dx,(.dC [(.str [116]),(.str [117])] false),l2,(dw 0),dx,(dw (.negSucc 0)),dx,(.dC [(.agg [(dw 1),(dw 0),(.bool false)]),(.agg [(dw 0),(dw 0),(.bool false)])] false),(.dC [(dw 0)] false),dx,(.dC [(dw 0),(dw 0)] false),l5])]
def r5:T:=(.dC [(.agg [(dw 1),(dw 2),(dw 5),(dw 0),(dw 0),dx])] false)
def abS:wD ((10,[])::t5) ft 100000 10 a5 ⟨0,0,[]⟩=some (r5,⟨0,0,[]⟩):=by kernel_rfl
abbrev es6:List (List T×T):=(a5,r5)::[]
abbrev t6:uC:=(10,es6)::t5
def p6:xr Tryz.prog cx t6:=xr.next Ia (xr.new (f:=10) p5) (by kernel_rfl) abS
end
end Go.Proofs.YtmaeadedikngoaaGreatDoor
