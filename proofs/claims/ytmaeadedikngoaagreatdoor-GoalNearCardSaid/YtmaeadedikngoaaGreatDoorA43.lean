/- Texts ARun1 to ARun1. -/
import Derived.Test.YtmaeadedikngoaaGreatDoorA42
set_option linter.all false
set_option maxRecDepth 100000
set_option maxHeartbeats 8000000
namespace Go.Proofs.YtmaeadedikngoaaGreatDoor
noncomputable section
open Go Go.TI
def a4:List T:=[l4,dz]
def r4:T:=(.tuple [(.agg [l1,dz,dz,dz,(.dF [(.str [116]),(.str [117])] false),l2,l5]),(.agg [dz,(dy (.negSucc 0)),dz,(.dF [l6,l6] false),(.dF [(dy 2)] false),dz,(.dF [(.agg [(dy 3),(.dF [(dy 1)] false),(.dF [dz] false),(dy 4)]),(.agg [(dy 2),(.dF [(dy 2)] false),(.dF [dz] false),(dy 3)])] false)])])
def ab3:wL ((60,[])::t4) ft 100000 60 a4 ⟨0,0,[]⟩=some (r4,⟨0,0,[]⟩):=dC
abbrev es5:List (List T×T):=(a4,r4)::[]
abbrev t5:uI:=(60,es5)::t4
def p5:xD Tryz.prog cx t5:=xD.next Ih (xD.new (f:=60) p4) dC ab3
def a5:List T:=[(.agg [l1,dz,dz,dz,(.dF [(.str [116]),(.str [117])] false),l2,(dy 0),dz,(dy (.negSucc 0)),dz,(.dF [(.agg [(dy 1),(dy 0),(.bool false)]),(.agg [(dy 0),(dy 0),(.bool false)])] false),(.dF [(dy 0)] false),dz,(.dF [(dy 0),(dy 0)] false),l5])]
def r5:T:=(.dF [(.agg [(dy 1),(dy 2),(dy 5),(dy 0),(dy 0),dz])] false)
def ab2:wL ((10,[])::t5) ft 100000 10 a5 ⟨0,0,[]⟩=some (r5,⟨0,0,[]⟩):=dC
abbrev es6:List (List T×T):=(a5,r5)::[]
abbrev t6:uI:=(10,es6)::t5
def p6:xD Tryz.prog cx t6:=xD.next Ih (xD.new (f:=10) p5) dC ab2
end
end Go.Proofs.YtmaeadedikngoaaGreatDoor
