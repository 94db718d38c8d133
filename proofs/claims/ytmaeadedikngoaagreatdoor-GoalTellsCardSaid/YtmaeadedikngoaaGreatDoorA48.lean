/- Texts ATellsFacts to ATellsFacts. -/
import Derived.Test.YtmaeadedikngoaaGreatDoorA11
import Derived.Test.YtmaeadedikngoaaGreatDoorA45
import Derived.Lay
import Derived.LaidOnce
import Derived.Test.YtmaeadedikngoaaGreatDoorCards
import Derived.Test.YtmaeadedikngoaaGreatDoorTie
import Derived.ProofKit
import Derived.SevenTiedAt
set_option linter.all false
set_option maxRecDepth 100000
set_option maxHeartbeats 8000000
namespace Go.Proofs.YtmaeadedikngoaaGreatDoor
noncomputable section
open Go Go.TI Go.RowKit Go.ChangeShapes Go.WideShapes
def F8:(Rows.goalTellsRow.wf (OpenSpec.ofChange Rows.goalTellsSpec))=true:=dI
def F7:(laidOutB Tryz.prog)=true:=dI
def F6:(mapsRowed Tryz.prog)=true:=dI
def F5:(Tryz.f3.params.all (Tryz.prog.readableRec ·))=true:=dI
def F4:(namedTie Tryz.prog Rows.goalTellsRow.named Rows.goalTellsSpec.vars)=true:=dI
def F3:((Rows.goalTellsRow.stops== []))=true:=dI
def F2:((Tryz.prog.stops== []))=true:=dI
def F1:((Rows.goalTellsRow.knobs== []))=true:=dI
def F0:((Tryz.prog.stopKnobs== []))=true:=dI
def FZ:((Rows.goalTellsRow.inPlace==Tryz.prog.inPlace 3))=true:=dI
def Eb:((Rows.goalTellsRow.unfollowed==Tryz.prog.unfollowed 3))=true:=dI
def Ea:((Rows.goalTellsRow.recurses==Tryz.prog.recurses 3))=true:=dI
def D9:((Rows.goalTellsRow.named==Tryz.prog.varsNamed 3))=true:=dI
def D8:((Rows.goalTellsRow.maps==(Tryz.f3.params.toList++Rows.goalTellsSpec.plain.varTypes Tryz.prog).any (Tryz.prog.mapsRec ·)))=true:=dI
def D7:((Rows.goalTellsRow.ifaces==(Tryz.f3.params.toList++Rows.goalTellsSpec.plain.varTypes Tryz.prog).any (Tryz.prog.ifacesRec ·)))=true:=dI
def D6:((Rows.goalTellsRow.mapsOut==Tryz.prog.mapsAmong Tryz.f3.resultTypes.toList))=true:=dI
def D5:((Rows.goalTellsRow.loops==(Tryz.f3.params.toList++Rows.goalTellsSpec.plain.varTypes Tryz.prog).any (Tryz.prog.loopsFrom ·)))=true:=dI
def D4:((Rows.goalTellsRow.wideKeys==(Tryz.f3.params.toList++Rows.goalTellsSpec.plain.varTypes Tryz.prog++Tryz.f3.resultTypes.toList).any (Tryz.prog.wideKeysFrom ·)))=true:=dI
def D3:(Rows.goalTellsSpec.vars.all (Tryz.prog.varReadable ·))=true:=dI
def D2:(Tryz.f3.resultTypes.all (λa=>Tryz.prog.readableRec a&&decide (a<Tryz.prog.types.size)))=true:=dI
def D1:((Rows.goalTellsRow.ifacesOut==Tryz.f3.resultTypes.toList.any (Tryz.prog.ifacesRec ·)))=true:=dI
def D0:((Rows.goalTellsRow.loopsOut==Tryz.f3.resultTypes.toList.any (Tryz.prog.loopsFrom ·)))=true:=dI
def DZ:((Rows.goalTellsRow.plainKeys==Tryz.prog.plainKeys))=true:=dI
def DY:(Rows.goalTellsRow.shortTexts.isNone)=true:=dI
def DX:(Tryz.prog.stopsHeard)=true:=dI
def DW:(Tryz.prog.mayEnter)=true:=dI
def DV:((Rows.goalTellsRow.lifted==Tryz.prog.liftsFinal))=true:=dI
def DU:((Tryz.prog.make==some Rows.goalTellsRow.make))=true:=dI
def DT:((Rows.goalTellsRow.kinds==(if Rows.goalTellsRow.domain.isEmpty then []else Tryz.f3.params.toList.map λb=>match Tryz.prog.underlying b with|some (.int a)=>some a|_=>none)))=true:=dI
def DS:((Rows.goalTellsRow.pinned==Rows.goalTellsRow.pinnedBy))=true:=dI
def DR:((Rows.goalTellsRow.veiled==(Tryz.f3.params.toList++Rows.goalTellsSpec.plain.varTypes Tryz.prog++Tryz.f3.resultTypes.toList).any (Tryz.prog.veiledRec ·)))=true:=dI
def DQ:(Rows.goalTellsRow.veiledFits Tryz.prog Tryz.f3.params.toList (Tryz.f3.params.toList++Rows.goalTellsSpec.plain.varTypes Tryz.prog++Tryz.f3.resultTypes.toList))=true:=dI
def As:joinedFacts Tryz.prog 3 Tryz.f3 Rows.goalTellsSpec Rows.goalTellsRow=true:=by
 unfold joinedFacts
 iterate 31 rw [aB]
 exact⟨⟨⟨⟨⟨⟨⟨⟨⟨⟨⟨⟨⟨⟨⟨⟨⟨⟨⟨⟨⟨⟨⟨⟨⟨⟨⟨⟨⟨⟨⟨F8,F7⟩,F6⟩,F5⟩,F4⟩,F3⟩,F2⟩,F1⟩,F0⟩,FZ⟩,Eb⟩,Ea⟩,D9⟩,D8⟩,D7⟩,D6⟩,D5⟩,D4⟩,D3⟩,D2⟩,D1⟩,D0⟩,DZ⟩,DY⟩,DX⟩,DW⟩,DV⟩,DU⟩,DT⟩,DS⟩,DR⟩,DQ⟩
def FY:Rows.goalTellsRow.wfByText (OpenSpec.ofChange Rows.goalTellsSpec)=true:=dI
def CS:Tryz.prog.mainIs=some (true,"96e63c93249ac6efc5ef6cb6ded2ba7abf4f04f423059530b43eb10f2a7c5359".toList):=dI
def Bc:true=Tryz.prog.looks []:=dI
def CT:false=Rows.goalTellsRow.goesBy Tryz.prog:=dI
def u0:Tryz.prog.funcNamed "interleave/interleavelaw20.GoalTells" =some 3:=dI
def kw0:List (List UInt8):=[[118,97,114],[118,111,108,97,116,105,108,101],[109,117,116,101,120],[114,119,108,111,99,107],[99,111,110,100],[102,117,116,117,114,101],[116,104,114,101,97,100],[105,102],[101,108,115,101],[119,104,105,108,101],[108,111,99,107],[114,101,97,100],[119,114,105,116,101],[116,114,97,110,115,97,99,116,105,111,110],[97,116,111,109,105,99],[119,97,105,116],[110,111,116,105,102,121],[110,111,116,105,102,121,97,108,108],[115,112,97,119,110],[106,111,105,110],[115,101,116],[103,101,116]]
def kw6:List Int:=[1,10,100,1000,10000,100000,1000000,10000000,100000000,1000000000,10000000000,100000000000,1000000000000,10000000000000,100000000000000,1000000000000000,10000000000000000,100000000000000000,1000000000000000000,10000000000000000000]
def kw7:List Int:=[0,1,28,2,29,14,24,3,30,22,20,15,25,17,4,8,31,27,13,23,21,19,16,7,26,12,18,6,11,5,10,9]
def kw8:List Int:=[0,1,56,2,57,49,28,3,61,58,42,50,38,29,17,4,62,47,59,36,45,43,51,22,53,39,33,30,24,18,12,5,63,55,48,27,60,41,37,16,46,35,44,21,52,32,23,11,54,26,40,15,34,20,31,10,25,14,19,9,13,8,7,6]
def Ws(W:World)(a:laidMet Tryz.prog Rows.goalTellsRow.laid W):gls.RC λg cs=>fD W.heap om (.jy cs) (.pointer (some ⟨g,0,none⟩)):=(.node (.node (.node .nil (F9 (P:=Tryz.prog) (w:=W) (name:= "interleave/token.keywords") (g:=0) (k:=22) (t:=321) (e:=9) (ss:=kw0) (cs:=gl0) dI dI dI dI dI dI dI dI (Lib.laidMet.reads a (by simp[Rows.goalTellsRow,kw0,Rows.laid_interleave_token_keywords]))) .nil) (At (P:=Tryz.prog) (w:=W) (name:= "internal/strconv.uint64pow10") (g:=6) (k:=20) (t:=379) (e:=272) (ki:= .u64) (zs:=kw6) (cs:=gl6) dI dI dI dI dI dI dI dI (Lib.laidMet.reads a (by simp[Rows.goalTellsRow,kw6,Rows.laid_internal_strconv_uint64pow10]))) .nil) (At (P:=Tryz.prog) (w:=W) (name:= "math/bits.deBruijn32tab") (g:=7) (k:=32) (t:=381) (e:=5) (ki:= .u8) (zs:=kw7) (cs:=gl7) dI dI dI dI dI dI dI dI (Lib.laidMet.reads a (by simp[Rows.goalTellsRow,kw7,Rows.laid_math_bits_deBruijn32tab]))) (.node .nil (At (P:=Tryz.prog) (w:=W) (name:= "math/bits.deBruijn64tab") (g:=8) (k:=64) (t:=382) (e:=5) (ki:= .u8) (zs:=kw8) (cs:=gl8) dI dI dI dI dI dI dI dI (Lib.laidMet.reads a (by simp[Rows.goalTellsRow,kw8,Rows.laid_math_bits_deBruijn64tab]))) .nil))
def own:ownKnob Tryz.prog.godebug=none:=dI
end
end Go.Proofs.YtmaeadedikngoaaGreatDoor
