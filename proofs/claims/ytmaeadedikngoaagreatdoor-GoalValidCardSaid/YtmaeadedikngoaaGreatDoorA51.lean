/- Texts AValidFacts to AValidFacts. -/
import Derived.Test.YtmaeadedikngoaaGreatDoorA12
import Derived.Test.YtmaeadedikngoaaGreatDoorA48
import Derived.Lay
import Derived.LaidOnce
import Derived.Test.YtmaeadedikngoaaGreatDoorCards
import Derived.Test.YtmaeadedikngoaaGreatDoorTie
import Derived.ProofKit
import Derived.SevenTiedAt
set_option linter.unusedVariables false
set_option linter.unusedSimpArgs false
set_option linter.defProp false
set_option maxRecDepth 100000
set_option maxHeartbeats 8000000
namespace Go.Proofs.YtmaeadedikngoaaGreatDoor
noncomputable section
open Go Go.TI Go.RowKit Go.ChangeShapes Go.WideShapes
def E6:(Rows.goalValidRow.wf (OpenSpec.ofChange Rows.goalValidSpec))=true:=by kernel_rfl
def E5:(laidOutB Tryz.prog)=true:=by kernel_rfl
def E4:(mapsRowed Tryz.prog)=true:=by kernel_rfl
def E3:(Tryz.f5.params.all (Tryz.prog.readableRec ·))=true:=by kernel_rfl
def E2:(namedTie Tryz.prog Rows.goalValidRow.named Rows.goalValidSpec.vars)=true:=by kernel_rfl
def E1:((Rows.goalValidRow.stops== []))=true:=by kernel_rfl
def E0:((Tryz.prog.stops== []))=true:=by kernel_rfl
def EZ:((Rows.goalValidRow.knobs== []))=true:=by kernel_rfl
def EY:((Tryz.prog.stopKnobs== []))=true:=by kernel_rfl
def EX:((Rows.goalValidRow.inPlace==Tryz.prog.inPlace 5))=true:=by kernel_rfl
def Dg:((Rows.goalValidRow.unfollowed==Tryz.prog.unfollowed 5))=true:=by kernel_rfl
def Df:((Rows.goalValidRow.recurses==Tryz.prog.recurses 5))=true:=by kernel_rfl
def De:((Rows.goalValidRow.named==Tryz.prog.varsNamed 5))=true:=by kernel_rfl
def Dd:((Rows.goalValidRow.maps==(Tryz.f5.params.toList++Rows.goalValidSpec.plain.varTypes Tryz.prog).any (Tryz.prog.mapsRec ·)))=true:=by kernel_rfl
def Dc:((Rows.goalValidRow.ifaces==(Tryz.f5.params.toList++Rows.goalValidSpec.plain.varTypes Tryz.prog).any (Tryz.prog.ifacesRec ·)))=true:=by kernel_rfl
def Db:((Rows.goalValidRow.mapsOut==Tryz.prog.mapsAmong Tryz.f5.resultTypes.toList))=true:=by kernel_rfl
def Da:((Rows.goalValidRow.loops==(Tryz.f5.params.toList++Rows.goalValidSpec.plain.varTypes Tryz.prog).any (Tryz.prog.loopsFrom ·)))=true:=by kernel_rfl
def C9:((Rows.goalValidRow.wideKeys==(Tryz.f5.params.toList++Rows.goalValidSpec.plain.varTypes Tryz.prog++Tryz.f5.resultTypes.toList).any (Tryz.prog.wideKeysFrom ·)))=true:=by kernel_rfl
def C7:(Rows.goalValidSpec.vars.all (Tryz.prog.varReadable ·))=true:=by kernel_rfl
def C6:(Tryz.f5.resultTypes.all (λa=>Tryz.prog.readableRec a&&decide (a<Tryz.prog.types.size)))=true:=by kernel_rfl
def C5:((Rows.goalValidRow.ifacesOut==Tryz.f5.resultTypes.toList.any (Tryz.prog.ifacesRec ·)))=true:=by kernel_rfl
def C4:((Rows.goalValidRow.loopsOut==Tryz.f5.resultTypes.toList.any (Tryz.prog.loopsFrom ·)))=true:=by kernel_rfl
def C3:((Rows.goalValidRow.plainKeys==Tryz.prog.plainKeys))=true:=by kernel_rfl
def C2:(Rows.goalValidRow.shortTexts.isNone)=true:=by kernel_rfl
def C1:(Tryz.prog.stopsHeard)=true:=by kernel_rfl
def C0:(Tryz.prog.mayEnter)=true:=by kernel_rfl
def CZ:((Rows.goalValidRow.lifted==Tryz.prog.liftsFinal))=true:=by kernel_rfl
def CY:((Tryz.prog.make==some Rows.goalValidRow.make))=true:=by kernel_rfl
def CX:((Rows.goalValidRow.kinds==(if Rows.goalValidRow.domain.isEmpty then []else Tryz.f5.params.toList.map λb=>match Tryz.prog.underlying b with|some (.int a)=>some a|_=>none)))=true:=by kernel_rfl
def CW:((Rows.goalValidRow.pinned==Rows.goalValidRow.pinnedBy))=true:=by kernel_rfl
def CV:((Rows.goalValidRow.veiled==(Tryz.f5.params.toList++Rows.goalValidSpec.plain.varTypes Tryz.prog++Tryz.f5.resultTypes.toList).any (Tryz.prog.veiledRec ·)))=true:=by kernel_rfl
def CU:(Rows.goalValidRow.veiledFits Tryz.prog Tryz.f5.params.toList (Tryz.f5.params.toList++Rows.goalValidSpec.plain.varTypes Tryz.prog++Tryz.f5.resultTypes.toList))=true:=by kernel_rfl
def zl:joinedFacts Tryz.prog 5 Tryz.f5 Rows.goalValidSpec Rows.goalValidRow=true:=by
 unfold joinedFacts
 iterate 31 rw [aB]
 exact⟨⟨⟨⟨⟨⟨⟨⟨⟨⟨⟨⟨⟨⟨⟨⟨⟨⟨⟨⟨⟨⟨⟨⟨⟨⟨⟨⟨⟨⟨⟨E6,E5⟩,E4⟩,E3⟩,E2⟩,E1⟩,E0⟩,EZ⟩,EY⟩,EX⟩,Dg⟩,Df⟩,De⟩,Dd⟩,Dc⟩,Db⟩,Da⟩,C9⟩,C7⟩,C6⟩,C5⟩,C4⟩,C3⟩,C2⟩,C1⟩,C0⟩,CZ⟩,CY⟩,CX⟩,CW⟩,CV⟩,CU⟩
def EW:Rows.goalValidRow.wfByText (OpenSpec.ofChange Rows.goalValidSpec)=true:=by kernel_rfl
def B0:Tryz.prog.mainIs=some (true,"96e63c93249ac6efc5ef6cb6ded2ba7abf4f04f423059530b43eb10f2a7c5359".toList):=by kernel_rfl
def At:true=Tryz.prog.looks []:=by kernel_rfl
def B1:false=Rows.goalValidRow.goesBy Tryz.prog:=by kernel_rfl
def us:Tryz.prog.funcNamed "interleave/interleavelaw20.GoalValid" =some 5:=by kernel_rfl
def kw0:List (List UInt8):=[[118,97,114],[118,111,108,97,116,105,108,101],[109,117,116,101,120],[114,119,108,111,99,107],[99,111,110,100],[102,117,116,117,114,101],[116,104,114,101,97,100],[105,102],[101,108,115,101],[119,104,105,108,101],[108,111,99,107],[114,101,97,100],[119,114,105,116,101],[116,114,97,110,115,97,99,116,105,111,110],[97,116,111,109,105,99],[119,97,105,116],[110,111,116,105,102,121],[110,111,116,105,102,121,97,108,108],[115,112,97,119,110],[106,111,105,110],[115,101,116],[103,101,116]]
def kw6:List Int:=[1,10,100,1000,10000,100000,1000000,10000000,100000000,1000000000,10000000000,100000000000,1000000000000,10000000000000,100000000000000,1000000000000000,10000000000000000,100000000000000000,1000000000000000000,10000000000000000000]
def kw7:List Int:=[0,1,28,2,29,14,24,3,30,22,20,15,25,17,4,8,31,27,13,23,21,19,16,7,26,12,18,6,11,5,10,9]
def kw8:List Int:=[0,1,56,2,57,49,28,3,61,58,42,50,38,29,17,4,62,47,59,36,45,43,51,22,53,39,33,30,24,18,12,5,63,55,48,27,60,41,37,16,46,35,44,21,52,32,23,11,54,26,40,15,34,20,31,10,25,14,19,9,13,8,7,6]
def UL(W:World)(a:laidMet Tryz.prog Rows.goalValidRow.laid W):gls.Qa λg cs=>fa W.heap nq (.je cs) (.pointer (some ⟨g,0,none⟩)):=(.node (.node (.node .nil (E7 (P:=Tryz.prog) (w:=W) (name:= "interleave/token.keywords") (g:=0) (k:=22) (t:=321) (e:=9) (ss:=kw0) (cs:=gl0) (by kernel_rfl) (by kernel_rfl) (by kernel_rfl) (by kernel_rfl) (by kernel_rfl) (by kernel_rfl) (by kernel_rfl) (by kernel_rfl) (Lib.laidMet.reads a (by simp[Rows.goalValidRow,kw0,Rows.laid_interleave_token_keywords]))) .nil) (zm (P:=Tryz.prog) (w:=W) (name:= "internal/strconv.uint64pow10") (g:=6) (k:=20) (t:=379) (e:=272) (ki:= .u64) (zs:=kw6) (cs:=gl6) (by kernel_rfl) (by kernel_rfl) (by kernel_rfl) (by kernel_rfl) (by kernel_rfl) (by kernel_rfl) (by kernel_rfl) (by kernel_rfl) (Lib.laidMet.reads a (by simp[Rows.goalValidRow,kw6,Rows.laid_internal_strconv_uint64pow10]))) .nil) (zm (P:=Tryz.prog) (w:=W) (name:= "math/bits.deBruijn32tab") (g:=7) (k:=32) (t:=381) (e:=5) (ki:= .u8) (zs:=kw7) (cs:=gl7) (by kernel_rfl) (by kernel_rfl) (by kernel_rfl) (by kernel_rfl) (by kernel_rfl) (by kernel_rfl) (by kernel_rfl) (by kernel_rfl) (Lib.laidMet.reads a (by simp[Rows.goalValidRow,kw7,Rows.laid_math_bits_deBruijn32tab]))) (.node .nil (zm (P:=Tryz.prog) (w:=W) (name:= "math/bits.deBruijn64tab") (g:=8) (k:=64) (t:=382) (e:=5) (ki:= .u8) (zs:=kw8) (cs:=gl8) (by kernel_rfl) (by kernel_rfl) (by kernel_rfl) (by kernel_rfl) (by kernel_rfl) (by kernel_rfl) (by kernel_rfl) (by kernel_rfl) (Lib.laidMet.reads a (by simp[Rows.goalValidRow,kw8,Rows.laid_math_bits_deBruijn64tab]))) .nil))
def own:ownKnob Tryz.prog.godebug=none:=by kernel_rfl
end
end Go.Proofs.YtmaeadedikngoaaGreatDoor
