/- ARun1 -/
import Derived.Test.YtalknpnbaceflaaGreatDoorA27
set_option linter.all false
set_option maxRecDepth 100000
set_option maxHeartbeats 0
namespace Go.Proofs.YtalknpnbaceflaaGreatDoor
noncomputable section
open Go Go.TI
def a4:List T:=[l4,dV]
def r4:T:=(.tuple [(.eZ [l1,dV,dV,dV,(.V [(.str [116]),(.str [117])] false),l2,l5]),(.eZ [dV,(C (.negSucc 0)),dV,(.V [l6,l6] false),(.V [(C 2)] false),dV,(.V [(.eZ [(C 3),(.V [(C 1)] false),(.V [dV] false),(C 4)]),(.eZ [(C 2),(.V [(C 2)] false),(.V [dV] false),(C 3)])] false)])])
def ahQ:Ay ((77,[])::t4) ft 100000 77 a4 ⟨0,0,[]⟩=some (r4,⟨0,0,[]⟩):=dY
abbrev es5:List (List T×T):=(a4,r4)::[]
abbrev t5:yi:=(77,es5)::t4
def p5:Ba Tryz.prog cx t5:=Ba.next MO (Ba.new (f:=77) p4) dY ahQ
def a5:List T:=[(.eZ [l1,dV,dV,dV,(.V [(.str [116]),(.str [117])] false),l2,(C 0),dV,(C (.negSucc 0)),dV,(.V [(.eZ [(C 1),(C 0),(.ez false)]),(.eZ [(C 0),(C 0),(.ez false)])] false),(.V [(C 0)] false),dV,(.V [(C 0),(C 0)] false),l5])]
def r5:T:=(.V [(.eZ [(C 1),(C 2),(C 5),(C 0),(C 0),dV])] false)
def ahP:Ay ((10,[])::t5) ft 100000 10 a5 ⟨0,0,[]⟩=some (r5,⟨0,0,[]⟩):=dY
abbrev es6:List (List T×T):=(a5,r5)::[]
abbrev t6:yi:=(10,es6)::t5
def p6:Ba Tryz.prog cx t6:=Ba.next MO (Ba.new (f:=10) p5) dY ahP
