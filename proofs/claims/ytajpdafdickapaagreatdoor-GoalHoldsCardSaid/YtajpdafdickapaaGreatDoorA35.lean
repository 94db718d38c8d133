/- AHoldsFacts -/
import Derived.Test.YtajpdafdickapaaGreatDoorA7
import Derived.Test.YtajpdafdickapaaGreatDoorA32
import Derived.Lay
import Derived.LaidOnce
import Derived.Test.YtajpdafdickapaaGreatDoorCards
import Derived.Test.YtajpdafdickapaaGreatDoorTie
import Derived.ProofKit
import Derived.SevenTiedAt
set_option linter.all false
set_option maxRecDepth 100000
set_option maxHeartbeats 8000000
namespace Go.Proofs.YtajpdafdickapaaGreatDoor
noncomputable section
open Go Go.TI Go.RowKit Go.ChangeShapes Go.WideShapes
def Ht:(Rows.goalHoldsRow.wf (OpenSpec.ofChange Rows.goalHoldsSpec))=true:=dG
def Hr:(laidOutB Tryz.prog)=true:=dG
def Hq:(mapsRowed Tryz.prog)=true:=dG
def Ho:(Tryz.f3.params.all (Tryz.prog.readableRec ·))=true:=dG
def Hn:(namedTie Tryz.prog Rows.goalHoldsRow.named Rows.goalHoldsSpec.vars)=true:=dG
def Hm:((Rows.goalHoldsRow.stops== []))=true:=dG
def Hl:((Tryz.prog.stops== []))=true:=dG
def Hk:((Rows.goalHoldsRow.knobs== []))=true:=dG
def Hj:((Tryz.prog.stopKnobs== []))=true:=dG
def Hi:((Rows.goalHoldsRow.inPlace==Tryz.prog.inPlace 3))=true:=dG
def E8:((Rows.goalHoldsRow.unfollowed==Tryz.prog.unfollowed 3))=true:=dG
def E7:((Rows.goalHoldsRow.recurses==Tryz.prog.recurses 3))=true:=dG
def E6:((Rows.goalHoldsRow.named==Tryz.prog.varsNamed 3))=true:=dG
def E5:((Rows.goalHoldsRow.maps==(Tryz.f3.params.toList++Rows.goalHoldsSpec.plain.varTypes Tryz.prog).any (Tryz.prog.mapsRec ·)))=true:=dG
def E4:((Rows.goalHoldsRow.ifaces==(Tryz.f3.params.toList++Rows.goalHoldsSpec.plain.varTypes Tryz.prog).any (Tryz.prog.ifacesRec ·)))=true:=dG
def E3:((Rows.goalHoldsRow.mapsOut==Tryz.prog.mapsAmong Tryz.f3.resultTypes.toList))=true:=dG
def E2:((Rows.goalHoldsRow.loops==(Tryz.f3.params.toList++Rows.goalHoldsSpec.plain.varTypes Tryz.prog).any (Tryz.prog.loopsFrom ·)))=true:=dG
def E1:((Rows.goalHoldsRow.wideKeys==(Tryz.f3.params.toList++Rows.goalHoldsSpec.plain.varTypes Tryz.prog++Tryz.f3.resultTypes.toList).any (Tryz.prog.wideKeysFrom ·)))=true:=dG
def E0:(Rows.goalHoldsSpec.vars.all (Tryz.prog.varReadable ·))=true:=dG
def EZ:(Tryz.f3.resultTypes.all (λa=>Tryz.prog.readableRec a&&decide (a<Tryz.prog.types.size)))=true:=dG
def EY:((Rows.goalHoldsRow.ifacesOut==Tryz.f3.resultTypes.toList.any (Tryz.prog.ifacesRec ·)))=true:=dG
def EX:((Rows.goalHoldsRow.loopsOut==Tryz.f3.resultTypes.toList.any (Tryz.prog.loopsFrom ·)))=true:=dG
def EW:((Rows.goalHoldsRow.plainKeys==Tryz.prog.plainKeys))=true:=dG
def EV:(Rows.goalHoldsRow.shortTexts.isNone)=true:=dG
def EU:(Tryz.prog.stopsHeard)=true:=dG
def ET:(Tryz.prog.mayEnter)=true:=dG
def ES:((Rows.goalHoldsRow.lifted==Tryz.prog.liftsFinal))=true:=dG
def ER:((Tryz.prog.make==some Rows.goalHoldsRow.make))=true:=dG
def EQ:((Rows.goalHoldsRow.kinds==(if Rows.goalHoldsRow.domain.isEmpty then []else Tryz.f3.params.toList.map λb=>match Tryz.prog.underlying b with|some (.int a)=>some a|_=>none)))=true:=dG
def EP:((Rows.goalHoldsRow.pinned==Rows.goalHoldsRow.pinnedBy))=true:=dG
def EO:((Rows.goalHoldsRow.veiled==(Tryz.f3.params.toList++Rows.goalHoldsSpec.plain.varTypes Tryz.prog++Tryz.f3.resultTypes.toList).any (Tryz.prog.veiledRec ·)))=true:=dG
def EN:(Rows.goalHoldsRow.veiledFits Tryz.prog Tryz.f3.params.toList (Tryz.f3.params.toList++Rows.goalHoldsSpec.plain.varTypes Tryz.prog++Tryz.f3.resultTypes.toList))=true:=dG
def Bc:joinedFacts Tryz.prog 3 Tryz.f3 Rows.goalHoldsSpec Rows.goalHoldsRow=true:=by
 unfold joinedFacts
 iterate 31 rw [ax]
 exact⟨⟨⟨⟨⟨⟨⟨⟨⟨⟨⟨⟨⟨⟨⟨⟨⟨⟨⟨⟨⟨⟨⟨⟨⟨⟨⟨⟨⟨⟨⟨Ht,Hr⟩,Hq⟩,Ho⟩,Hn⟩,Hm⟩,Hl⟩,Hk⟩,Hj⟩,Hi⟩,E8⟩,E7⟩,E6⟩,E5⟩,E4⟩,E3⟩,E2⟩,E1⟩,E0⟩,EZ⟩,EY⟩,EX⟩,EW⟩,EV⟩,EU⟩,ET⟩,ES⟩,ER⟩,EQ⟩,EP⟩,EO⟩,EN⟩
def Hh:Rows.goalHoldsRow.wfByText (OpenSpec.ofChange Rows.goalHoldsSpec)=true:=dG
def DT:Tryz.prog.mainIs=some (true,"0ae23184089ae666cb7da79b8b2862ed35f15fa0fbc7b2123bc8527cf0069351".toList):=dG
def B2:true=Tryz.prog.looks []:=dG
def DU:false=Rows.goalHoldsRow.goesBy Tryz.prog:=dG
def vM:Tryz.prog.funcNamed "interleave/interleavelaw20.GoalHolds" =some 3:=dG
def kw0:List (List UInt8):=[[118,97,114],[118,111,108,97,116,105,108,101],[109,117,116,101,120],[114,119,108,111,99,107],[99,111,110,100],[102,117,116,117,114,101],[116,104,114,101,97,100],[105,102],[101,108,115,101],[119,104,105,108,101],[108,111,99,107],[114,101,97,100],[119,114,105,116,101],[116,114,97,110,115,97,99,116,105,111,110],[97,116,111,109,105,99],[119,97,105,116],[110,111,116,105,102,121],[110,111,116,105,102,121,97,108,108],[115,112,97,119,110],[106,111,105,110],[115,101,116],[103,101,116]]
def kw6:List Int:=[1,10,100,1000,10000,100000,1000000,10000000,100000000,1000000000,10000000000,100000000000,1000000000000,10000000000000,100000000000000,1000000000000000,10000000000000000,100000000000000000,1000000000000000000,10000000000000000000]
def kw7:List Int:=[0,1,28,2,29,14,24,3,30,22,20,15,25,17,4,8,31,27,13,23,21,19,16,7,26,12,18,6,11,5,10,9]
def kw8:List Int:=[0,1,56,2,57,49,28,3,61,58,42,50,38,29,17,4,62,47,59,36,45,43,51,22,53,39,33,30,24,18,12,5,63,55,48,27,60,41,37,16,46,35,44,21,52,32,23,11,54,26,40,15,34,20,31,10,25,14,19,9,13,8,7,6]
def Yo(W:World)(a:laidMet Tryz.prog Rows.goalHoldsRow.laid W):gls.TD λg cs=>fI W.heap nV (.jH cs) (.pointer (some ⟨g,0,none⟩)):=(.node (.node (.node .nil (Hu (P:=Tryz.prog) (w:=W) (name:= "interleave/token.keywords") (g:=0) (k:=22) (t:=332) (e:=9) (ss:=kw0) (cs:=gl0) dG dG dG dG dG dG dG dG (Lib.laidMet.reads a (by simp[Rows.goalHoldsRow,kw0,Rows.laid_interleave_token_keywords]))) .nil) (Bd (P:=Tryz.prog) (w:=W) (name:= "internal/strconv.uint64pow10") (g:=6) (k:=20) (t:=393) (e:=302) (ki:= .u64) (zs:=kw6) (cs:=gl6) dG dG dG dG dG dG dG dG (Lib.laidMet.reads a (by simp[Rows.goalHoldsRow,kw6,Rows.laid_internal_strconv_uint64pow10]))) .nil) (Bd (P:=Tryz.prog) (w:=W) (name:= "math/bits.deBruijn32tab") (g:=7) (k:=32) (t:=395) (e:=5) (ki:= .u8) (zs:=kw7) (cs:=gl7) dG dG dG dG dG dG dG dG (Lib.laidMet.reads a (by simp[Rows.goalHoldsRow,kw7,Rows.laid_math_bits_deBruijn32tab]))) (.node .nil (Bd (P:=Tryz.prog) (w:=W) (name:= "math/bits.deBruijn64tab") (g:=8) (k:=64) (t:=396) (e:=5) (ki:= .u8) (zs:=kw8) (cs:=gl8) dG dG dG dG dG dG dG dG (Lib.laidMet.reads a (by simp[Rows.goalHoldsRow,kw8,Rows.laid_math_bits_deBruijn64tab]))) .nil))
def own:ownKnob Tryz.prog.godebug=none:=dG
