/- ABlockedFacts -/
import Derived.Test.YtajpdafdickapaaGreatDoorA7
import Derived.Test.YtajpdafdickapaaGreatDoorA32
import Derived.Lay
import Derived.LaidOnce
import Derived.Test.YtajpdafdickapaaGreatDoorCards
import Derived.Test.YtajpdafdickapaaGreatDoorTie
import Derived.ProofKit
import Derived.SevenTiedAt
set_option linter.all false
set_option maxRecDepth 100000
set_option maxHeartbeats 8000000
namespace Go.Proofs.YtajpdafdickapaaGreatDoor
noncomputable section
open Go Go.TI Go.RowKit Go.ChangeShapes Go.WideShapes
def D9:(Rows.goalBlockedRow.wf (OpenSpec.ofChange Rows.goalBlockedSpec))=true:=dG
def D8:(laidOutB Tryz.prog)=true:=dG
def D7:(mapsRowed Tryz.prog)=true:=dG
def D6:(Tryz.f4.params.all (Tryz.prog.readableRec ·))=true:=dG
def D5:(namedTie Tryz.prog Rows.goalBlockedRow.named Rows.goalBlockedSpec.vars)=true:=dG
def D4:((Rows.goalBlockedRow.stops== []))=true:=dG
def D3:((Tryz.prog.stops== []))=true:=dG
def D2:((Rows.goalBlockedRow.knobs== []))=true:=dG
def D1:((Tryz.prog.stopKnobs== []))=true:=dG
def D0:((Rows.goalBlockedRow.inPlace==Tryz.prog.inPlace 4))=true:=dG
def B5:((Rows.goalBlockedRow.unfollowed==Tryz.prog.unfollowed 4))=true:=dG
def B4:((Rows.goalBlockedRow.recurses==Tryz.prog.recurses 4))=true:=dG
def B3:((Rows.goalBlockedRow.named==Tryz.prog.varsNamed 4))=true:=dG
def B2:((Rows.goalBlockedRow.maps==(Tryz.f4.params.toList++Rows.goalBlockedSpec.plain.varTypes Tryz.prog).any (Tryz.prog.mapsRec ·)))=true:=dG
def B1:((Rows.goalBlockedRow.ifaces==(Tryz.f4.params.toList++Rows.goalBlockedSpec.plain.varTypes Tryz.prog).any (Tryz.prog.ifacesRec ·)))=true:=dG
def B0:((Rows.goalBlockedRow.mapsOut==Tryz.prog.mapsAmong Tryz.f4.resultTypes.toList))=true:=dG
def BZ:((Rows.goalBlockedRow.loops==(Tryz.f4.params.toList++Rows.goalBlockedSpec.plain.varTypes Tryz.prog).any (Tryz.prog.loopsFrom ·)))=true:=dG
def BY:((Rows.goalBlockedRow.wideKeys==(Tryz.f4.params.toList++Rows.goalBlockedSpec.plain.varTypes Tryz.prog++Tryz.f4.resultTypes.toList).any (Tryz.prog.wideKeysFrom ·)))=true:=dG
def BX:(Rows.goalBlockedSpec.vars.all (Tryz.prog.varReadable ·))=true:=dG
def BW:(Tryz.f4.resultTypes.all (λa=>Tryz.prog.readableRec a&&decide (a<Tryz.prog.types.size)))=true:=dG
def BV:((Rows.goalBlockedRow.ifacesOut==Tryz.f4.resultTypes.toList.any (Tryz.prog.ifacesRec ·)))=true:=dG
def BU:((Rows.goalBlockedRow.loopsOut==Tryz.f4.resultTypes.toList.any (Tryz.prog.loopsFrom ·)))=true:=dG
def BT:((Rows.goalBlockedRow.plainKeys==Tryz.prog.plainKeys))=true:=dG
def BS:(Rows.goalBlockedRow.shortTexts.isNone)=true:=dG
def BR:(Tryz.prog.stopsHeard)=true:=dG
def BQ:(Tryz.prog.mayEnter)=true:=dG
def BP:((Rows.goalBlockedRow.lifted==Tryz.prog.liftsFinal))=true:=dG
def BO:((Tryz.prog.make==some Rows.goalBlockedRow.make))=true:=dG
def BN:((Rows.goalBlockedRow.kinds==(if Rows.goalBlockedRow.domain.isEmpty then []else Tryz.f4.params.toList.map λb=>match Tryz.prog.underlying b with|some (.int a)=>some a|_=>none)))=true:=dG
def BM:((Rows.goalBlockedRow.pinned==Rows.goalBlockedRow.pinnedBy))=true:=dG
def BL:((Rows.goalBlockedRow.veiled==(Tryz.f4.params.toList++Rows.goalBlockedSpec.plain.varTypes Tryz.prog++Tryz.f4.resultTypes.toList).any (Tryz.prog.veiledRec ·)))=true:=dG
def BK:(Rows.goalBlockedRow.veiledFits Tryz.prog Tryz.f4.params.toList (Tryz.f4.params.toList++Rows.goalBlockedSpec.plain.varTypes Tryz.prog++Tryz.f4.resultTypes.toList))=true:=dG
def yw:joinedFacts Tryz.prog 4 Tryz.f4 Rows.goalBlockedSpec Rows.goalBlockedRow=true:=by
 unfold joinedFacts
 iterate 31 rw [aB]
 exact⟨⟨⟨⟨⟨⟨⟨⟨⟨⟨⟨⟨⟨⟨⟨⟨⟨⟨⟨⟨⟨⟨⟨⟨⟨⟨⟨⟨⟨⟨⟨D9,D8⟩,D7⟩,D6⟩,D5⟩,D4⟩,D3⟩,D2⟩,D1⟩,D0⟩,B5⟩,B4⟩,B3⟩,B2⟩,B1⟩,B0⟩,BZ⟩,BY⟩,BX⟩,BW⟩,BV⟩,BU⟩,BT⟩,BS⟩,BR⟩,BQ⟩,BP⟩,BO⟩,BN⟩,BM⟩,BL⟩,BK⟩
def DZ:Rows.goalBlockedRow.wfByText (OpenSpec.ofChange Rows.goalBlockedSpec)=true:=dG
def AT:Tryz.prog.mainIs=some (true,"0ae23184089ae666cb7da79b8b2862ed35f15fa0fbc7b2123bc8527cf0069351".toList):=dG
def zG:true=Tryz.prog.looks []:=dG
def AU:false=Rows.goalBlockedRow.goesBy Tryz.prog:=dG
def tI:Tryz.prog.funcNamed "interleave/interleavelaw20.GoalBlocked" =some 4:=dG
def kw0:List (List UInt8):=[[118,97,114],[118,111,108,97,116,105,108,101],[109,117,116,101,120],[114,119,108,111,99,107],[99,111,110,100],[102,117,116,117,114,101],[116,104,114,101,97,100],[105,102],[101,108,115,101],[119,104,105,108,101],[108,111,99,107],[114,101,97,100],[119,114,105,116,101],[116,114,97,110,115,97,99,116,105,111,110],[97,116,111,109,105,99],[119,97,105,116],[110,111,116,105,102,121],[110,111,116,105,102,121,97,108,108],[115,112,97,119,110],[106,111,105,110],[115,101,116],[103,101,116]]
def kw6:List Int:=[1,10,100,1000,10000,100000,1000000,10000000,100000000,1000000000,10000000000,100000000000,1000000000000,10000000000000,100000000000000,1000000000000000,10000000000000000,100000000000000000,1000000000000000000,10000000000000000000]
def kw7:List Int:=[0,1,28,2,29,14,24,3,30,22,20,15,25,17,4,8,31,27,13,23,21,19,16,7,26,12,18,6,11,5,10,9]
def kw8:List Int:=[0,1,56,2,57,49,28,3,61,58,42,50,38,29,17,4,62,47,59,36,45,43,51,22,53,39,33,30,24,18,12,5,63,55,48,27,60,41,37,16,46,35,44,21,52,32,23,11,54,26,40,15,34,20,31,10,25,14,19,9,13,8,7,6]
def Xr(W:World)(a:laidMet Tryz.prog Rows.goalBlockedRow.laid W):gls.Ss λg cs=>fI W.heap nQ (.jD cs) (.pointer (some ⟨g,0,none⟩)):=(.node (.node (.node .nil (GV (P:=Tryz.prog) (w:=W) (name:= "interleave/token.keywords") (g:=0) (k:=22) (t:=332) (e:=9) (ss:=kw0) (cs:=gl0) dG dG dG dG dG dG dG dG (Lib.laidMet.reads a (by simp[Rows.goalBlockedRow,kw0,Rows.laid_interleave_token_keywords]))) .nil) (AV (P:=Tryz.prog) (w:=W) (name:= "internal/strconv.uint64pow10") (g:=6) (k:=20) (t:=393) (e:=302) (ki:= .u64) (zs:=kw6) (cs:=gl6) dG dG dG dG dG dG dG dG (Lib.laidMet.reads a (by simp[Rows.goalBlockedRow,kw6,Rows.laid_internal_strconv_uint64pow10]))) .nil) (AV (P:=Tryz.prog) (w:=W) (name:= "math/bits.deBruijn32tab") (g:=7) (k:=32) (t:=395) (e:=5) (ki:= .u8) (zs:=kw7) (cs:=gl7) dG dG dG dG dG dG dG dG (Lib.laidMet.reads a (by simp[Rows.goalBlockedRow,kw7,Rows.laid_math_bits_deBruijn32tab]))) (.node .nil (AV (P:=Tryz.prog) (w:=W) (name:= "math/bits.deBruijn64tab") (g:=8) (k:=64) (t:=396) (e:=5) (ki:= .u8) (zs:=kw8) (cs:=gl8) dG dG dG dG dG dG dG dG (Lib.laidMet.reads a (by simp[Rows.goalBlockedRow,kw8,Rows.laid_math_bits_deBruijn64tab]))) .nil))
def own:ownKnob Tryz.prog.godebug=none:=dG
