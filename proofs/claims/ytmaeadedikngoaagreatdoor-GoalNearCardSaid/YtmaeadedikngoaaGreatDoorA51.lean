/- Texts ANearFacts to ANearFacts. -/
import Derived.Test.YtmaeadedikngoaaGreatDoorA12
import Derived.Test.YtmaeadedikngoaaGreatDoorA48
import Derived.Lay
import Derived.LaidOnce
import Derived.Test.YtmaeadedikngoaaGreatDoorCards
import Derived.Test.YtmaeadedikngoaaGreatDoorTie
import Derived.ProofKit
import Derived.SevenTiedAt
set_option linter.all false
set_option maxRecDepth 100000
set_option maxHeartbeats 8000000
namespace Go.Proofs.YtmaeadedikngoaaGreatDoor
noncomputable section
open Go Go.TI Go.RowKit Go.ChangeShapes Go.WideShapes
def Hc:(Rows.goalNearRow.wf (OpenSpec.ofChange Rows.goalNearSpec))=true:=dC
def Hb:(laidOutB Tryz.prog)=true:=dC
def Ha:(mapsRowed Tryz.prog)=true:=dC
def G9:(Tryz.f6.params.all (Tryz.prog.readableRec ·))=true:=dC
def G8:(namedTie Tryz.prog Rows.goalNearRow.named Rows.goalNearSpec.vars)=true:=dC
def G7:((Rows.goalNearRow.stops== []))=true:=dC
def G6:((Tryz.prog.stops== []))=true:=dC
def G5:((Rows.goalNearRow.knobs== []))=true:=dC
def G4:((Tryz.prog.stopKnobs== []))=true:=dC
def GZ:((Rows.goalNearRow.inPlace==Tryz.prog.inPlace 6))=true:=dC
def E4:((Rows.goalNearRow.unfollowed==Tryz.prog.unfollowed 6))=true:=dC
def E3:((Rows.goalNearRow.recurses==Tryz.prog.recurses 6))=true:=dC
def E2:((Rows.goalNearRow.named==Tryz.prog.varsNamed 6))=true:=dC
def E1:((Rows.goalNearRow.maps==(Tryz.f6.params.toList++Rows.goalNearSpec.plain.varTypes Tryz.prog).any (Tryz.prog.mapsRec ·)))=true:=dC
def E0:((Rows.goalNearRow.ifaces==(Tryz.f6.params.toList++Rows.goalNearSpec.plain.varTypes Tryz.prog).any (Tryz.prog.ifacesRec ·)))=true:=dC
def EZ:((Rows.goalNearRow.mapsOut==Tryz.prog.mapsAmong Tryz.f6.resultTypes.toList))=true:=dC
def EY:((Rows.goalNearRow.loops==(Tryz.f6.params.toList++Rows.goalNearSpec.plain.varTypes Tryz.prog).any (Tryz.prog.loopsFrom ·)))=true:=dC
def EX:((Rows.goalNearRow.wideKeys==(Tryz.f6.params.toList++Rows.goalNearSpec.plain.varTypes Tryz.prog++Tryz.f6.resultTypes.toList).any (Tryz.prog.wideKeysFrom ·)))=true:=dC
def EW:(Rows.goalNearSpec.vars.all (Tryz.prog.varReadable ·))=true:=dC
def EV:(Tryz.f6.resultTypes.all (λa=>Tryz.prog.readableRec a&&decide (a<Tryz.prog.types.size)))=true:=dC
def EU:((Rows.goalNearRow.ifacesOut==Tryz.f6.resultTypes.toList.any (Tryz.prog.ifacesRec ·)))=true:=dC
def ET:((Rows.goalNearRow.loopsOut==Tryz.f6.resultTypes.toList.any (Tryz.prog.loopsFrom ·)))=true:=dC
def ES:((Rows.goalNearRow.plainKeys==Tryz.prog.plainKeys))=true:=dC
def ER:(Rows.goalNearRow.shortTexts.isNone)=true:=dC
def EQ:(Tryz.prog.stopsHeard)=true:=dC
def EP:(Tryz.prog.mayEnter)=true:=dC
def EO:((Rows.goalNearRow.lifted==Tryz.prog.liftsFinal))=true:=dC
def EN:((Tryz.prog.make==some Rows.goalNearRow.make))=true:=dC
def EM:((Rows.goalNearRow.kinds==(if Rows.goalNearRow.domain.isEmpty then []else Tryz.f6.params.toList.map λb=>match Tryz.prog.underlying b with|some (.int a)=>some a|_=>none)))=true:=dC
def EL:((Rows.goalNearRow.pinned==Rows.goalNearRow.pinnedBy))=true:=dC
def EK:((Rows.goalNearRow.veiled==(Tryz.f6.params.toList++Rows.goalNearSpec.plain.varTypes Tryz.prog++Tryz.f6.resultTypes.toList).any (Tryz.prog.veiledRec ·)))=true:=dC
def EJ:(Rows.goalNearRow.veiledFits Tryz.prog Tryz.f6.params.toList (Tryz.f6.params.toList++Rows.goalNearSpec.plain.varTypes Tryz.prog++Tryz.f6.resultTypes.toList))=true:=dC
def AC:joinedFacts Tryz.prog 6 Tryz.f6 Rows.goalNearSpec Rows.goalNearRow=true:=by
 unfold joinedFacts
 iterate 31 rw [aB]
 exact⟨⟨⟨⟨⟨⟨⟨⟨⟨⟨⟨⟨⟨⟨⟨⟨⟨⟨⟨⟨⟨⟨⟨⟨⟨⟨⟨⟨⟨⟨⟨Hc,Hb⟩,Ha⟩,G9⟩,G8⟩,G7⟩,G6⟩,G5⟩,G4⟩,GZ⟩,E4⟩,E3⟩,E2⟩,E1⟩,E0⟩,EZ⟩,EY⟩,EX⟩,EW⟩,EV⟩,EU⟩,ET⟩,ES⟩,ER⟩,EQ⟩,EP⟩,EO⟩,EN⟩,EM⟩,EL⟩,EK⟩,EJ⟩
def GY:Rows.goalNearRow.wfByText (OpenSpec.ofChange Rows.goalNearSpec)=true:=dC
def C1:Tryz.prog.mainIs=some (true,"96e63c93249ac6efc5ef6cb6ded2ba7abf4f04f423059530b43eb10f2a7c5359".toList):=dC
def B8:true=Tryz.prog.looks []:=dC
def C2:false=Rows.goalNearRow.goesBy Tryz.prog:=dC
def u9:Tryz.prog.funcNamed "interleave/interleavelaw20.GoalNear" =some 6:=dC
def kw0:List (List UInt8):=[[118,97,114],[118,111,108,97,116,105,108,101],[109,117,116,101,120],[114,119,108,111,99,107],[99,111,110,100],[102,117,116,117,114,101],[116,104,114,101,97,100],[105,102],[101,108,115,101],[119,104,105,108,101],[108,111,99,107],[114,101,97,100],[119,114,105,116,101],[116,114,97,110,115,97,99,116,105,111,110],[97,116,111,109,105,99],[119,97,105,116],[110,111,116,105,102,121],[110,111,116,105,102,121,97,108,108],[115,112,97,119,110],[106,111,105,110],[115,101,116],[103,101,116]]
def kw6:List Int:=[1,10,100,1000,10000,100000,1000000,10000000,100000000,1000000000,10000000000,100000000000,1000000000000,10000000000000,100000000000000,1000000000000000,10000000000000000,100000000000000000,1000000000000000000,10000000000000000000]
def kw7:List Int:=[0,1,28,2,29,14,24,3,30,22,20,15,25,17,4,8,31,27,13,23,21,19,16,7,26,12,18,6,11,5,10,9]
def kw8:List Int:=[0,1,56,2,57,49,28,3,61,58,42,50,38,29,17,4,62,47,59,36,45,43,51,22,53,39,33,30,24,18,12,5,63,55,48,27,60,41,37,16,46,35,44,21,52,32,23,11,54,26,40,15,34,20,31,10,25,14,19,9,13,8,7,6]
def UX(W:World)(a:laidMet Tryz.prog Rows.goalNearRow.laid W):gls.Qk λg cs=>fg W.heap mU (.ji cs) (.pointer (some ⟨g,0,none⟩)):=(.node (.node (.node .nil (E5 (P:=Tryz.prog) (w:=W) (name:= "interleave/token.keywords") (g:=0) (k:=22) (t:=321) (e:=9) (ss:=kw0) (cs:=gl0) dC dC dC dC dC dC dC dC (Lib.laidMet.reads a (by simp[Rows.goalNearRow,kw0,Rows.laid_interleave_token_keywords]))) .nil) (zv (P:=Tryz.prog) (w:=W) (name:= "internal/strconv.uint64pow10") (g:=6) (k:=20) (t:=379) (e:=272) (ki:= .u64) (zs:=kw6) (cs:=gl6) dC dC dC dC dC dC dC dC (Lib.laidMet.reads a (by simp[Rows.goalNearRow,kw6,Rows.laid_internal_strconv_uint64pow10]))) .nil) (zv (P:=Tryz.prog) (w:=W) (name:= "math/bits.deBruijn32tab") (g:=7) (k:=32) (t:=381) (e:=5) (ki:= .u8) (zs:=kw7) (cs:=gl7) dC dC dC dC dC dC dC dC (Lib.laidMet.reads a (by simp[Rows.goalNearRow,kw7,Rows.laid_math_bits_deBruijn32tab]))) (.node .nil (zv (P:=Tryz.prog) (w:=W) (name:= "math/bits.deBruijn64tab") (g:=8) (k:=64) (t:=382) (e:=5) (ki:= .u8) (zs:=kw8) (cs:=gl8) dC dC dC dC dC dC dC dC (Lib.laidMet.reads a (by simp[Rows.goalNearRow,kw8,Rows.laid_math_bits_deBruijn64tab]))) .nil))
def own:ownKnob Tryz.prog.godebug=none:=dC
end
end Go.Proofs.YtmaeadedikngoaaGreatDoor
