/- AOverFacts -/
import Derived.Test.YtmoiekepclmgbaaGreatDoorA7
import Derived.Test.YtmoiekepclmgbaaGreatDoorA34
import Derived.Lay
import Derived.LaidOnce
import Derived.Test.YtmoiekepclmgbaaGreatDoorCards
import Derived.Test.YtmoiekepclmgbaaGreatDoorTie
import Derived.ProofKit
import Derived.SevenTiedAt
set_option linter.all false
set_option maxRecDepth 100000
set_option maxHeartbeats 0
namespace Go.Proofs.YtmoiekepclmgbaaGreatDoor
noncomputable section
open Go Go.TI Go.RowKit Go.ChangeShapes Go.WideShapes
abbrev uO:=Rows.goalOverRow
abbrev yy:=Rows.goalOverSpec
def Dg:joinedFacts Tryz.prog 4 Tryz.f4 yy uO=true:=by
 unfold joinedFacts
 iterate 31 rw [ax]
 repeat' refine And.intro ?_ ?_
 all_goals as_aux_lemma=>kernel_rfl
def KC:uO.wfByText (OpenSpec.ofChange yy)=true:=dU
def Gq:Tryz.prog.mainIs=some (true,"81d43e2c43c14c58f6b0f0263e7c4eae5221d2c24a3c85b5ee4ac1558d68afd5".toList):=dU
def Fl:true=Tryz.prog.looks []:=dU
def Gs:false=uO.goesBy Tryz.prog:=dU
def yn:Tryz.prog.funcNamed "interleave/interleavelaw20.GoalOver" =some 4:=dU
def N3:List (List UInt8):=[[118,97,114],[118,111,108,97,116,105,108,101],[109,117,116,101,120],[114,119,108,111,99,107],[99,111,110,100],[102,117,116,117,114,101],[116,104,114,101,97,100],[105,102],[101,108,115,101],[119,104,105,108,101],[108,111,99,107],[114,101,97,100],[119,114,105,116,101],[116,114,97,110,115,97,99,116,105,111,110],[97,116,111,109,105,99],[119,97,105,116],[110,111,116,105,102,121],[110,111,116,105,102,121,97,108,108],[115,112,97,119,110],[106,111,105,110],[115,101,116],[103,101,116]]
def N2:List Int:=[1,10,100,1000,10000,100000,1000000,10000000,100000000,1000000000,10000000000,100000000000,1000000000000,10000000000000,100000000000000,1000000000000000,10000000000000000,100000000000000000,1000000000000000000,10000000000000000000]
def N1:List Int:=[0,1,28,2,29,14,24,3,30,22,20,15,25,17,4,8,31,27,13,23,21,19,16,7,26,12,18,6,11,5,10,9]
def N0:List Int:=[0,1,56,2,57,49,28,3,61,58,42,50,38,29,17,4,62,47,59,36,45,43,51,22,53,39,33,30,24,18,12,5,63,55,48,27,60,41,37,16,46,35,44,21,52,32,23,11,54,26,40,15,34,20,31,10,25,14,19,9,13,8,7,6]
def MG(W:World)(a:laidMet Tryz.prog Rows.goalOverRow.laid W):gls.U3 λg cs=>gW W.heap oL (.j9 cs) (.pointer (some ⟨g,0,none⟩)):=(.node (.node (.node .nil (Bk (P:=Tryz.prog) (w:=W) (name:= "interleave/token.keywords") (g:=0) (k:=22) (t:=334) (e:=9) (ss:=N3) (cs:=gl0) dU dU dU dU dU dU dU dU (Lib.laidMet.reads a (by simp[Rows.goalOverRow,N3,Rows.laid_interleave_token_keywords]))) .nil) (tN (P:=Tryz.prog) (w:=W) (name:= "internal/strconv.uint64pow10") (g:=6) (k:=20) (t:=392) (e:=285) (ki:= .u64) (zs:=N2) (cs:=gl6) dU dU dU dU dU dU dU dU (Lib.laidMet.reads a (by simp[Rows.goalOverRow,N2,Rows.laid_internal_strconv_uint64pow10]))) .nil) (tN (P:=Tryz.prog) (w:=W) (name:= "math/bits.deBruijn32tab") (g:=7) (k:=32) (t:=394) (e:=5) (ki:= .u8) (zs:=N1) (cs:=gl7) dU dU dU dU dU dU dU dU (Lib.laidMet.reads a (by simp[Rows.goalOverRow,N1,Rows.laid_math_bits_deBruijn32tab]))) (.node .nil (tN (P:=Tryz.prog) (w:=W) (name:= "math/bits.deBruijn64tab") (g:=8) (k:=64) (t:=395) (e:=5) (ki:= .u8) (zs:=N0) (cs:=gl8) dU dU dU dU dU dU dU dU (Lib.laidMet.reads a (by simp[Rows.goalOverRow,N0,Rows.laid_math_bits_deBruijn64tab]))) .nil))
def VG:ownKnob Tryz.prog.godebug=none:=dU
