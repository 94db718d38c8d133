/- Texts AFacts to AFacts. -/
import Derived.Test.YtmaeadedikngoaaGreatDoorA10
import Derived.Test.YtmaeadedikngoaaGreatDoorA41
import Derived.Lay
import Derived.LaidOnce
import Derived.Test.YtmaeadedikngoaaGreatDoorCards
import Derived.Test.YtmaeadedikngoaaGreatDoorTie
import Derived.ProofKit
import Derived.SevenTiedAt
set_option linter.unusedVariables false
set_option linter.unusedSimpArgs false
set_option maxRecDepth 100000
set_option maxHeartbeats 8000000
namespace Go.Proofs.YtmaeadedikngoaaGreatDoor
noncomputable section
open Go Go.TI Go.RowKit Go.ChangeShapes Go.WideShapes
theorem Gh:(Rows.goalMadeRow.wf (OpenSpec.ofChange Rows.goalMadeSpec))=true:=by kernel_rfl
theorem Gg:(laidOutB Tryz.prog)=true:=by kernel_rfl
theorem Gf:(mapsRowed Tryz.prog)=true:=by kernel_rfl
theorem Ge:(Tryz.f4.params.all (Tryz.prog.readableRec ·))=true:=by kernel_rfl
theorem Gd:(namedTie Tryz.prog Rows.goalMadeRow.named Rows.goalMadeSpec.vars)=true:=by kernel_rfl
theorem Gb:((Rows.goalMadeRow.stops== []))=true:=by kernel_rfl
theorem Ga:((Tryz.prog.stops== []))=true:=by kernel_rfl
theorem F9:((Rows.goalMadeRow.knobs== []))=true:=by kernel_rfl
theorem F8:((Tryz.prog.stopKnobs== []))=true:=by kernel_rfl
theorem F7:((Rows.goalMadeRow.inPlace==Tryz.prog.inPlace 4))=true:=by kernel_rfl
theorem Ej:((Rows.goalMadeRow.unfollowed==Tryz.prog.unfollowed 4))=true:=by kernel_rfl
theorem Ei:((Rows.goalMadeRow.recurses==Tryz.prog.recurses 4))=true:=by kernel_rfl
theorem Eh:((Rows.goalMadeRow.named==Tryz.prog.varsNamed 4))=true:=by kernel_rfl
theorem Eg:((Rows.goalMadeRow.maps==(Tryz.f4.params.toList++Rows.goalMadeSpec.plain.varTypes Tryz.prog).any (Tryz.prog.mapsRec ·)))=true:=by kernel_rfl
theorem Ef:((Rows.goalMadeRow.ifaces==(Tryz.f4.params.toList++Rows.goalMadeSpec.plain.varTypes Tryz.prog).any (Tryz.prog.ifacesRec ·)))=true:=by kernel_rfl
theorem Ee:((Rows.goalMadeRow.mapsOut==Tryz.prog.mapsAmong Tryz.f4.resultTypes.toList))=true:=by kernel_rfl
theorem Ed:((Rows.goalMadeRow.loops==(Tryz.f4.params.toList++Rows.goalMadeSpec.plain.varTypes Tryz.prog).any (Tryz.prog.loopsFrom ·)))=true:=by kernel_rfl
theorem Ec:((Rows.goalMadeRow.wideKeys==(Tryz.f4.params.toList++Rows.goalMadeSpec.plain.varTypes Tryz.prog++Tryz.f4.resultTypes.toList).any (Tryz.prog.wideKeysFrom ·)))=true:=by kernel_rfl
theorem Eb:(Rows.goalMadeSpec.vars.all (Tryz.prog.varReadable ·))=true:=by kernel_rfl
theorem Ea:(Tryz.f4.resultTypes.all (λa=>Tryz.prog.readableRec a&&decide (a<Tryz.prog.types.size)))=true:=by kernel_rfl
theorem D9:((Rows.goalMadeRow.ifacesOut==Tryz.f4.resultTypes.toList.any (Tryz.prog.ifacesRec ·)))=true:=by kernel_rfl
theorem D8:((Rows.goalMadeRow.loopsOut==Tryz.f4.resultTypes.toList.any (Tryz.prog.loopsFrom ·)))=true:=by kernel_rfl
theorem D7:((Rows.goalMadeRow.plainKeys==Tryz.prog.plainKeys))=true:=by kernel_rfl
theorem D6:(Rows.goalMadeRow.shortTexts.isNone)=true:=by kernel_rfl
theorem D5:(Tryz.prog.stopsHeard)=true:=by kernel_rfl
theorem D4:(Tryz.prog.mayEnter)=true:=by kernel_rfl
theorem D3:((Rows.goalMadeRow.lifted==Tryz.prog.liftsFinal))=true:=by kernel_rfl
theorem D2:((Tryz.prog.make==some Rows.goalMadeRow.make))=true:=by kernel_rfl
theorem D1:((Rows.goalMadeRow.kinds==(if Rows.goalMadeRow.domain.isEmpty then []else Tryz.f4.params.toList.map λb=>match Tryz.prog.underlying b with|some (.int a)=>some a|_=>none)))=true:=by kernel_rfl
theorem D0:((Rows.goalMadeRow.pinned==Rows.goalMadeRow.pinnedBy))=true:=by kernel_rfl
theorem DZ:((Rows.goalMadeRow.veiled==(Tryz.f4.params.toList++Rows.goalMadeSpec.plain.varTypes Tryz.prog++Tryz.f4.resultTypes.toList).any (Tryz.prog.veiledRec ·)))=true:=by kernel_rfl
theorem DY:(Rows.goalMadeRow.veiledFits Tryz.prog Tryz.f4.params.toList (Tryz.f4.params.toList++Rows.goalMadeSpec.plain.varTypes Tryz.prog++Tryz.f4.resultTypes.toList))=true:=by kernel_rfl
theorem zy:joinedFacts Tryz.prog 4 Tryz.f4 Rows.goalMadeSpec Rows.goalMadeRow=true:=by
 unfold joinedFacts
 iterate 31 rw [ay]
 exact⟨⟨⟨⟨⟨⟨⟨⟨⟨⟨⟨⟨⟨⟨⟨⟨⟨⟨⟨⟨⟨⟨⟨⟨⟨⟨⟨⟨⟨⟨⟨Gh,Gg⟩,Gf⟩,Ge⟩,Gd⟩,Gb⟩,Ga⟩,F9⟩,F8⟩,F7⟩,Ej⟩,Ei⟩,Eh⟩,Eg⟩,Ef⟩,Ee⟩,Ed⟩,Ec⟩,Eb⟩,Ea⟩,D9⟩,D8⟩,D7⟩,D6⟩,D5⟩,D4⟩,D3⟩,D2⟩,D1⟩,D0⟩,DZ⟩,DY⟩
theorem F6:Rows.goalMadeRow.wfByText (OpenSpec.ofChange Rows.goalMadeSpec)=true:=by kernel_rfl
theorem Ck:Tryz.prog.mainIs=some (true,"96e63c93249ac6efc5ef6cb6ded2ba7abf4f04f423059530b43eb10f2a7c5359".toList):=by kernel_rfl
theorem Br:true=Tryz.prog.looks []:=by kernel_rfl
theorem Cm:false=Rows.goalMadeRow.goesBy Tryz.prog:=by kernel_rfl
theorem uG:Tryz.prog.funcNamed "interleave/interleavelaw20.GoalMade" =some 4:=by kernel_rfl
def kw0:List (List UInt8):=[[118,97,114],[118,111,108,97,116,105,108,101],[109,117,116,101,120],[114,119,108,111,99,107],[99,111,110,100],[102,117,116,117,114,101],[116,104,114,101,97,100],[105,102],[101,108,115,101],[119,104,105,108,101],[108,111,99,107],[114,101,97,100],[119,114,105,116,101],[116,114,97,110,115,97,99,116,105,111,110],[97,116,111,109,105,99],[119,97,105,116],[110,111,116,105,102,121],[110,111,116,105,102,121,97,108,108],[115,112,97,119,110],[106,111,105,110],[115,101,116],[103,101,116]]
def kw6:List Int:=[1,10,100,1000,10000,100000,1000000,10000000,100000000,1000000000,10000000000,100000000000,1000000000000,10000000000000,100000000000000,1000000000000000,10000000000000000,100000000000000000,1000000000000000000,10000000000000000000]
def kw7:List Int:=[0,1,28,2,29,14,24,3,30,22,20,15,25,17,4,8,31,27,13,23,21,19,16,7,26,12,18,6,11,5,10,9]
def kw8:List Int:=[0,1,56,2,57,49,28,3,61,58,42,50,38,29,17,4,62,47,59,36,45,43,51,22,53,39,33,30,24,18,12,5,63,55,48,27,60,41,37,16,46,35,44,21,52,32,23,11,54,26,40,15,34,20,31,10,25,14,19,9,13,8,7,6]
theorem UF(W:World)(a:laidMet Tryz.prog Rows.goalMadeRow.laid W):gls.Q6 λg cs=>eg W.heap nC (.iT cs) (.pointer (some ⟨g,0,none⟩)):=(.node (.node (.node .nil (Ek (P:=Tryz.prog) (w:=W) (name:= "interleave/token.keywords") (g:=0) (k:=22) (t:=321) (e:=9) (ss:=kw0) (cs:=gl0) (by kernel_rfl) (by kernel_rfl) (by kernel_rfl) (by kernel_rfl) (by kernel_rfl) (by kernel_rfl) (by kernel_rfl) (by kernel_rfl) (Lib.laidMet.reads a (by simp[Rows.goalMadeRow,kw0,Rows.laid_interleave_token_keywords]))) .nil) (yH (P:=Tryz.prog) (w:=W) (name:= "internal/strconv.uint64pow10") (g:=6) (k:=20) (t:=379) (e:=272) (ki:= .u64) (zs:=kw6) (cs:=gl6) (by kernel_rfl) (by kernel_rfl) (by kernel_rfl) (by kernel_rfl) (by kernel_rfl) (by kernel_rfl) (by kernel_rfl) (by kernel_rfl) (Lib.laidMet.reads a (by simp[Rows.goalMadeRow,kw6,Rows.laid_internal_strconv_uint64pow10]))) .nil) (yH (P:=Tryz.prog) (w:=W) (name:= "math/bits.deBruijn32tab") (g:=7) (k:=32) (t:=381) (e:=5) (ki:= .u8) (zs:=kw7) (cs:=gl7) (by kernel_rfl) (by kernel_rfl) (by kernel_rfl) (by kernel_rfl) (by kernel_rfl) (by kernel_rfl) (by kernel_rfl) (by kernel_rfl) (Lib.laidMet.reads a (by simp[Rows.goalMadeRow,kw7,Rows.laid_math_bits_deBruijn32tab]))) (.node .nil (yH (P:=Tryz.prog) (w:=W) (name:= "math/bits.deBruijn64tab") (g:=8) (k:=64) (t:=382) (e:=5) (ki:= .u8) (zs:=kw8) (cs:=gl8) (by kernel_rfl) (by kernel_rfl) (by kernel_rfl) (by kernel_rfl) (by kernel_rfl) (by kernel_rfl) (by kernel_rfl) (by kernel_rfl) (Lib.laidMet.reads a (by simp[Rows.goalMadeRow,kw8,Rows.laid_math_bits_deBruijn64tab]))) .nil))
theorem own:ownKnob Tryz.prog.godebug=none:=by kernel_rfl
end
end Go.Proofs.YtmaeadedikngoaaGreatDoor
