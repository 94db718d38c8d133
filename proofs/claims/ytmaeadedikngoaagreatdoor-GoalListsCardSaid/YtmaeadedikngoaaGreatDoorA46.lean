/- Texts AListsFacts to AListsFacts. -/
import Derived.Test.YtmaeadedikngoaaGreatDoorA11
import Derived.Test.YtmaeadedikngoaaGreatDoorA43
import Derived.Lay
import Derived.LaidOnce
import Derived.Test.YtmaeadedikngoaaGreatDoorCards
import Derived.Test.YtmaeadedikngoaaGreatDoorTie
import Derived.ProofKit
import Derived.SevenTiedAt
set_option linter.all false
set_option maxRecDepth 100000
set_option maxHeartbeats 8000000
namespace Go.Proofs.YtmaeadedikngoaaGreatDoor
noncomputable section
open Go Go.TI Go.RowKit Go.ChangeShapes Go.WideShapes
def FY:(Rows.goalListsRow.wf (OpenSpec.ofChange Rows.goalListsSpec))=true:=dK
def FX:(laidOutB Tryz.prog)=true:=dK
def FW:(mapsRowed Tryz.prog)=true:=dK
def FV:(Tryz.f7.params.all (Tryz.prog.readableRec ·))=true:=dK
def FU:(namedTie Tryz.prog Rows.goalListsRow.named Rows.goalListsSpec.vars)=true:=dK
def FS:((Rows.goalListsRow.stops== []))=true:=dK
def FR:((Tryz.prog.stops== []))=true:=dK
def FQ:((Rows.goalListsRow.knobs== []))=true:=dK
def FP:((Tryz.prog.stopKnobs== []))=true:=dK
def FO:((Rows.goalListsRow.inPlace==Tryz.prog.inPlace 7))=true:=dK
def D2:((Rows.goalListsRow.unfollowed==Tryz.prog.unfollowed 7))=true:=dK
def D1:((Rows.goalListsRow.recurses==Tryz.prog.recurses 7))=true:=dK
def D0:((Rows.goalListsRow.named==Tryz.prog.varsNamed 7))=true:=dK
def DZ:((Rows.goalListsRow.maps==(Tryz.f7.params.toList++Rows.goalListsSpec.plain.varTypes Tryz.prog).any (Tryz.prog.mapsRec ·)))=true:=dK
def DY:((Rows.goalListsRow.ifaces==(Tryz.f7.params.toList++Rows.goalListsSpec.plain.varTypes Tryz.prog).any (Tryz.prog.ifacesRec ·)))=true:=dK
def DX:((Rows.goalListsRow.mapsOut==Tryz.prog.mapsAmong Tryz.f7.resultTypes.toList))=true:=dK
def DW:((Rows.goalListsRow.loops==(Tryz.f7.params.toList++Rows.goalListsSpec.plain.varTypes Tryz.prog).any (Tryz.prog.loopsFrom ·)))=true:=dK
def DV:((Rows.goalListsRow.wideKeys==(Tryz.f7.params.toList++Rows.goalListsSpec.plain.varTypes Tryz.prog++Tryz.f7.resultTypes.toList).any (Tryz.prog.wideKeysFrom ·)))=true:=dK
def DU:(Rows.goalListsSpec.vars.all (Tryz.prog.varReadable ·))=true:=dK
def DT:(Tryz.f7.resultTypes.all (λa=>Tryz.prog.readableRec a&&decide (a<Tryz.prog.types.size)))=true:=dK
def DS:((Rows.goalListsRow.ifacesOut==Tryz.f7.resultTypes.toList.any (Tryz.prog.ifacesRec ·)))=true:=dK
def DR:((Rows.goalListsRow.loopsOut==Tryz.f7.resultTypes.toList.any (Tryz.prog.loopsFrom ·)))=true:=dK
def DQ:((Rows.goalListsRow.plainKeys==Tryz.prog.plainKeys))=true:=dK
def DP:(Rows.goalListsRow.shortTexts.isNone)=true:=dK
def DO:(Tryz.prog.stopsHeard)=true:=dK
def DM:(Tryz.prog.mayEnter)=true:=dK
def DJ:((Rows.goalListsRow.lifted==Tryz.prog.liftsFinal))=true:=dK
def DI:((Tryz.prog.make==some Rows.goalListsRow.make))=true:=dK
def DH:((Rows.goalListsRow.kinds==(if Rows.goalListsRow.domain.isEmpty then []else Tryz.f7.params.toList.map λb=>match Tryz.prog.underlying b with|some (.int a)=>some a|_=>none)))=true:=dK
def DG:((Rows.goalListsRow.pinned==Rows.goalListsRow.pinnedBy))=true:=dK
def DF:((Rows.goalListsRow.veiled==(Tryz.f7.params.toList++Rows.goalListsSpec.plain.varTypes Tryz.prog++Tryz.f7.resultTypes.toList).any (Tryz.prog.veiledRec ·)))=true:=dK
def DE:(Rows.goalListsRow.veiledFits Tryz.prog Tryz.f7.params.toList (Tryz.f7.params.toList++Rows.goalListsSpec.plain.varTypes Tryz.prog++Tryz.f7.resultTypes.toList))=true:=dK
def Al:joinedFacts Tryz.prog 7 Tryz.f7 Rows.goalListsSpec Rows.goalListsRow=true:=by
 unfold joinedFacts
 iterate 31 rw [ay]
 exact⟨⟨⟨⟨⟨⟨⟨⟨⟨⟨⟨⟨⟨⟨⟨⟨⟨⟨⟨⟨⟨⟨⟨⟨⟨⟨⟨⟨⟨⟨⟨FY,FX⟩,FW⟩,FV⟩,FU⟩,FS⟩,FR⟩,FQ⟩,FP⟩,FO⟩,D2⟩,D1⟩,D0⟩,DZ⟩,DY⟩,DX⟩,DW⟩,DV⟩,DU⟩,DT⟩,DS⟩,DR⟩,DQ⟩,DP⟩,DO⟩,DM⟩,DJ⟩,DI⟩,DH⟩,DG⟩,DF⟩,DE⟩
def FN:Rows.goalListsRow.wfByText (OpenSpec.ofChange Rows.goalListsSpec)=true:=dK
def CH:Tryz.prog.mainIs=some (true,"96e63c93249ac6efc5ef6cb6ded2ba7abf4f04f423059530b43eb10f2a7c5359".toList):=dK
def A1:true=Tryz.prog.looks []:=dK
def CI:false=Rows.goalListsRow.goesBy Tryz.prog:=dK
def u0:Tryz.prog.funcNamed "interleave/interleavelaw20.GoalLists" =some 7:=dK
def kw0:List (List UInt8):=[[118,97,114],[118,111,108,97,116,105,108,101],[109,117,116,101,120],[114,119,108,111,99,107],[99,111,110,100],[102,117,116,117,114,101],[116,104,114,101,97,100],[105,102],[101,108,115,101],[119,104,105,108,101],[108,111,99,107],[114,101,97,100],[119,114,105,116,101],[116,114,97,110,115,97,99,116,105,111,110],[97,116,111,109,105,99],[119,97,105,116],[110,111,116,105,102,121],[110,111,116,105,102,121,97,108,108],[115,112,97,119,110],[106,111,105,110],[115,101,116],[103,101,116]]
def kw6:List Int:=[1,10,100,1000,10000,100000,1000000,10000000,100000000,1000000000,10000000000,100000000000,1000000000000,10000000000000,100000000000000,1000000000000000,10000000000000000,100000000000000000,1000000000000000000,10000000000000000000]
def kw7:List Int:=[0,1,28,2,29,14,24,3,30,22,20,15,25,17,4,8,31,27,13,23,21,19,16,7,26,12,18,6,11,5,10,9]
def kw8:List Int:=[0,1,56,2,57,49,28,3,61,58,42,50,38,29,17,4,62,47,59,36,45,43,51,22,53,39,33,30,24,18,12,5,63,55,48,27,60,41,37,16,46,35,44,21,52,32,23,11,54,26,40,15,34,20,31,10,25,14,19,9,13,8,7,6]
def V9(W:World)(a:laidMet Tryz.prog Rows.goalListsRow.laid W):gls.Rn λg cs=>fD W.heap oc (.jB cs) (.pointer (some ⟨g,0,none⟩)):=(.node (.node (.node .nil (FZ (P:=Tryz.prog) (w:=W) (name:= "interleave/token.keywords") (g:=0) (k:=22) (t:=321) (e:=9) (ss:=kw0) (cs:=gl0) dK dK dK dK dK dK dK dK (Lib.laidMet.reads a (by simp[Rows.goalListsRow,kw0,Rows.laid_interleave_token_keywords]))) .nil) (Am (P:=Tryz.prog) (w:=W) (name:= "internal/strconv.uint64pow10") (g:=6) (k:=20) (t:=379) (e:=272) (ki:= .u64) (zs:=kw6) (cs:=gl6) dK dK dK dK dK dK dK dK (Lib.laidMet.reads a (by simp[Rows.goalListsRow,kw6,Rows.laid_internal_strconv_uint64pow10]))) .nil) (Am (P:=Tryz.prog) (w:=W) (name:= "math/bits.deBruijn32tab") (g:=7) (k:=32) (t:=381) (e:=5) (ki:= .u8) (zs:=kw7) (cs:=gl7) dK dK dK dK dK dK dK dK (Lib.laidMet.reads a (by simp[Rows.goalListsRow,kw7,Rows.laid_math_bits_deBruijn32tab]))) (.node .nil (Am (P:=Tryz.prog) (w:=W) (name:= "math/bits.deBruijn64tab") (g:=8) (k:=64) (t:=382) (e:=5) (ki:= .u8) (zs:=kw8) (cs:=gl8) dK dK dK dK dK dK dK dK (Lib.laidMet.reads a (by simp[Rows.goalListsRow,kw8,Rows.laid_math_bits_deBruijn64tab]))) .nil))
def own:ownKnob Tryz.prog.godebug=none:=dK
end
end Go.Proofs.YtmaeadedikngoaaGreatDoor
