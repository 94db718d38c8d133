/- Texts ARun1 to ARun1. -/
import Derived.Test.YtmaeadedikngoaaGreatDoorA36
set_option linter.unusedVariables false
set_option linter.unusedSimpArgs false
set_option maxRecDepth 100000
set_option maxHeartbeats 8000000
namespace Go.Proofs.YtmaeadedikngoaaGreatDoor
noncomputable section
open Go Go.TI
def a4:List T:=[l4,(.dq [] false)]
def r4:T:=(.tuple [(.agg [l1,(.dq [] false),(.dq [] false),(.dq [] false),(.dq [(.str [116]),(.str [117])] false),l2,l5]),(.agg [(.dq [] false),(.int .i64 (.negSucc 0)),(.dq [] false),(.dq [l6,l6] false),(.dq [(.int .i64 2)] false),(.dq [] false),(.dq [(.agg [(.int .i64 3),(.dq [(.int .i64 1)] false),(.dq [(.dq [] false)] false),(.int .i64 4)]),(.agg [(.int .i64 2),(.dq [(.int .i64 2)] false),(.dq [(.dq [] false)] false),(.int .i64 3)])] false)])])
theorem ac4:we ((60,[])::t4) ft 100000 60 a4 ⟨0,0,[]⟩=some (r4,⟨0,0,[]⟩):=by kernel_rfl
abbrev es5:List (List T×T):=(a4,r4)::[]
abbrev t5:uj:=(60,es5)::t4
theorem p5:wY Tryz.prog cx t5:=wY.next HD (wY.new (f:=60) p4) (by kernel_rfl) ac4
def a5:List T:=[(.agg [l1,(.dq [] false),(.dq [] false),(.dq [] false),(.dq [(.str [116]),(.str [117])] false),l2,(.int .i64 0),(.dq [] false),(.int .i64 (.negSucc 0)),(.dq [] false),(.dq [(.agg [(.int .i64 1),(.int .i64 0),(.bool false)]),(.agg [(.int .i64 0),(.int .i64 0),(.bool false)])] false),(.dq [(.int .i64 0)] false),(.dq [] false),(.dq [(.int .i64 0),(.int .i64 0)] false),l5])]
def r5:T:=(.dq [(.agg [(.int .i64 1),(.int .i64 2),(.int .i64 5),(.int .i64 0),(.int .i64 0),(.dq [] false)])] false)
theorem ac3:we ((10,[])::t5) ft 100000 10 a5 ⟨0,0,[]⟩=some (r5,⟨0,0,[]⟩):=by kernel_rfl
abbrev es6:List (List T×T):=(a5,r5)::[]
abbrev t6:uj:=(10,es6)::t5
theorem p6:wY Tryz.prog cx t6:=wY.next HD (wY.new (f:=10) p5) (by kernel_rfl) ac3
end
end Go.Proofs.YtmaeadedikngoaaGreatDoor
