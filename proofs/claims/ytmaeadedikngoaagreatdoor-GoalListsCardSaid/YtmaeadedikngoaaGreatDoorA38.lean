/- Texts ARun1 to ARun1. -/
import Derived.Test.YtmaeadedikngoaaGreatDoorA37
set_option linter.all false
set_option maxRecDepth 100000
set_option maxHeartbeats 8000000
namespace Go.Proofs.YtmaeadedikngoaaGreatDoor
noncomputable section
open Go Go.TI
def a4:List T:=[l4,dH]
def r4:T:=(.tuple [(.agg [l1,dH,dH,dH,(.dN [(.str [116]),(.str [117])] false),l2,l5]),(.agg [dH,(dG (.negSucc 0)),dH,(.dN [l6,l6] false),(.dN [(dG 2)] false),dH,(.dN [(.agg [(dG 3),(.dN [(dG 1)] false),(.dN [dH] false),(dG 4)]),(.agg [(dG 2),(.dN [(dG 2)] false),(.dN [dH] false),(dG 3)])] false)])])
def adz:xn ((60,[])::t4) ft 100000 60 a4 ⟨0,0,[]⟩=some (r4,⟨0,0,[]⟩):=dK
abbrev es5:List (List T×T):=(a4,r4)::[]
abbrev t5:vk:=(60,es5)::t4
def p5:yd Tryz.prog cx t5:=yd.next I9 (yd.new (f:=60) p4) dK adz
def a5:List T:=[(.agg [l1,dH,dH,dH,(.dN [(.str [116]),(.str [117])] false),l2,(dG 0),dH,(dG (.negSucc 0)),dH,(.dN [(.agg [(dG 1),(dG 0),(.bool false)]),(.agg [(dG 0),(dG 0),(.bool false)])] false),(.dN [(dG 0)] false),dH,(.dN [(dG 0),(dG 0)] false),l5])]
def r5:T:=(.dN [(.agg [(dG 1),(dG 2),(dG 5),(dG 0),(dG 0),dH])] false)
def ady:xn ((10,[])::t5) ft 100000 10 a5 ⟨0,0,[]⟩=some (r5,⟨0,0,[]⟩):=dK
abbrev es6:List (List T×T):=(a5,r5)::[]
abbrev t6:vk:=(10,es6)::t5
def p6:yd Tryz.prog cx t6:=yd.next I9 (yd.new (f:=10) p5) dK ady
end
end Go.Proofs.YtmaeadedikngoaaGreatDoor
