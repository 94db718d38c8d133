/- Texts ARun1 to ARun1. -/
import Derived.Test.YtmaeadedikngoaaGreatDoorA38
set_option linter.all false
set_option maxRecDepth 100000
set_option maxHeartbeats 8000000
namespace Go.Proofs.YtmaeadedikngoaaGreatDoor
noncomputable section
open Go Go.TI
def a4:List T:=[l4,dF]
def r4:T:=(.tuple [(.agg [l1,dF,dF,dF,(.dM [(.str [116]),(.str [117])] false),l2,l5]),(.agg [dF,(dE (.negSucc 0)),dF,(.dM [l6,l6] false),(.dM [(dE 2)] false),dF,(.dM [(.agg [(dE 3),(.dM [(dE 1)] false),(.dM [dF] false),(dE 4)]),(.agg [(dE 2),(.dM [(dE 2)] false),(.dM [dF] false),(dE 3)])] false)])])
def adM:xp ((60,[])::t4) ft 100000 60 a4 ⟨0,0,[]⟩=some (r4,⟨0,0,[]⟩):=dI
abbrev es5:List (List T×T):=(a4,r4)::[]
abbrev t5:vk:=(60,es5)::t4
def p5:yf Tryz.prog cx t5:=yf.next Ji (yf.new (f:=60) p4) dI adM
def a5:List T:=[(.agg [l1,dF,dF,dF,(.dM [(.str [116]),(.str [117])] false),l2,(dE 0),dF,(dE (.negSucc 0)),dF,(.dM [(.agg [(dE 1),(dE 0),(.bool false)]),(.agg [(dE 0),(dE 0),(.bool false)])] false),(.dM [(dE 0)] false),dF,(.dM [(dE 0),(dE 0)] false),l5])]
def r5:T:=(.dM [(.agg [(dE 1),(dE 2),(dE 5),(dE 0),(dE 0),dF])] false)
def adL:xp ((10,[])::t5) ft 100000 10 a5 ⟨0,0,[]⟩=some (r5,⟨0,0,[]⟩):=dI
abbrev es6:List (List T×T):=(a5,r5)::[]
abbrev t6:vk:=(10,es6)::t5
def p6:yf Tryz.prog cx t6:=yf.next Ji (yf.new (f:=10) p5) dI adL
end
end Go.Proofs.YtmaeadedikngoaaGreatDoor
