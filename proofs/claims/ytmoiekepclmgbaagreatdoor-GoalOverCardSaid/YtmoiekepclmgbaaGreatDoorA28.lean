/- ARun1 -/
import Derived.Test.YtmoiekepclmgbaaGreatDoorA27
set_option linter.all false
set_option maxRecDepth 100000
set_option maxHeartbeats 0
namespace Go.Proofs.YtmoiekepclmgbaaGreatDoor
noncomputable section
open Go Go.TI
def a4:List T:=[l4,dR]
def r4:T:=(.tuple [(.agg [l1,dR,dR,dR,(.ed [(.str [116]),(.str [117])] false),l2,l5]),(.agg [dR,(G (.negSucc 0)),dR,(.ed [l6,l6] false),(.ed [(G 2)] false),dR,(.ed [(.agg [(G 3),(.ed [(G 1)] false),(.ed [dR] false),(G 4)]),(.agg [(G 2),(.ed [(G 2)] false),(.ed [dR] false),(G 3)])] false)])])
def ag7:zG ((76,[])::t4) ft 100000 76 a4 ⟨0,0,[]⟩=some (r4,⟨0,0,[]⟩):=dU
abbrev es5:List (List T×T):=(a4,r4)::[]
abbrev t5:xF:=(76,es5)::t4
def p5:Aw Tryz.prog cx t5:=Aw.next LQ (Aw.new (f:=76) p4) dU ag7
def a5:List T:=[(.agg [l1,dR,dR,dR,(.ed [(.str [116]),(.str [117])] false),l2,(G 0),dR,(G (.negSucc 0)),dR,(.ed [(.agg [(G 1),(G 0),(.bool false)]),(.agg [(G 0),(G 0),(.bool false)])] false),(.ed [(G 0)] false),dR,(.ed [(G 0),(G 0)] false),l5])]
def r5:T:=(.ed [(.agg [(G 1),(G 2),(G 5),(G 0),(G 0),dR])] false)
def ag6:zG ((9,[])::t5) ft 100000 9 a5 ⟨0,0,[]⟩=some (r5,⟨0,0,[]⟩):=dU
abbrev es6:List (List T×T):=(a5,r5)::[]
abbrev t6:xF:=(9,es6)::t5
def p6:Aw Tryz.prog cx t6:=Aw.next LQ (Aw.new (f:=9) p5) dU ag6
