/- ADeadlocksFacts -/
import Derived.Test.YtalknpnbaceflaaGreatDoorA7
import Derived.Test.YtalknpnbaceflaaGreatDoorA34
import Derived.Lay
import Derived.LaidOnce
import Derived.Test.YtalknpnbaceflaaGreatDoorCards
import Derived.Test.YtalknpnbaceflaaGreatDoorTie
import Derived.ProofKit
import Derived.SevenTiedAt
set_option linter.all false
set_option maxRecDepth 100000
set_option maxHeartbeats 0
namespace Go.Proofs.YtalknpnbaceflaaGreatDoor
noncomputable section
open Go Go.TI Go.RowKit Go.ChangeShapes Go.WideShapes
abbrev mT:=Rows.goalDeadlocksRow
abbrev ph:=Rows.goalDeadlocksSpec
def yS:joinedFacts Tryz.prog 5 Tryz.f5 ph mT=true:=by
 unfold joinedFacts
 iterate 31 rw [az]
 repeat' refine And.intro ?_ ?_
 all_goals as_aux_lemma=>kernel_rfl
def Db:mT.wfByText (OpenSpec.ofChange ph)=true:=dY
def AU:Tryz.prog.mainIs=some (true,"d5896529f5d7735db0de5a9dc02100719733a75c95f19923495dfbced31af927".toList):=dY
def Ab:true=Tryz.prog.looks []:=dY
def AV:false=mT.goesBy Tryz.prog:=dY
def t7:Tryz.prog.funcNamed "interleave/interleavelaw20.GoalDeadlocks" =some 5:=dY
def B0:List (List UInt8):=[[118,97,114],[118,111,108,97,116,105,108,101],[109,117,116,101,120],[114,119,108,111,99,107],[99,111,110,100],[102,117,116,117,114,101],[116,104,114,101,97,100],[105,102],[101,108,115,101],[119,104,105,108,101],[108,111,99,107],[114,101,97,100],[119,114,105,116,101],[116,114,97,110,115,97,99,116,105,111,110],[97,116,111,109,105,99],[119,97,105,116],[110,111,116,105,102,121],[110,111,116,105,102,121,97,108,108],[115,112,97,119,110],[106,111,105,110],[115,101,116],[103,101,116]]
def BZ:List Int:=[1,10,100,1000,10000,100000,1000000,10000000,100000000,1000000000,10000000000,100000000000,1000000000000,10000000000000,100000000000000,1000000000000000,10000000000000000,100000000000000000,1000000000000000000,10000000000000000000]
def BY:List Int:=[0,1,28,2,29,14,24,3,30,22,20,15,25,17,4,8,31,27,13,23,21,19,16,7,26,12,18,6,11,5,10,9]
def BX:List Int:=[0,1,56,2,57,49,28,3,61,58,42,50,38,29,17,4,62,47,59,36,45,43,51,22,53,39,33,30,24,18,12,5,63,55,48,27,60,41,37,16,46,35,44,21,52,32,23,11,54,26,40,15,34,20,31,10,25,14,19,9,13,8,7,6]
def D8(W:World)(a:laidMet Tryz.prog Rows.goalDeadlocksRow.laid W):gls.RY λg cs=>iu W.heap oZ (.ks cs) (.pointer (some ⟨g,0,none⟩)):=(.eY (.eY (.eY .nil (xD (P:=Tryz.prog) (w:=W) (name:= "interleave/token.keywords") (g:=0) (k:=22) (t:=331) (e:=9) (ss:=B0) (cs:=gl0) dY dY dY dY dY dY dY dY (Lib.laidMet.reads a (by simp[Rows.goalDeadlocksRow,B0,Rows.laid_interleave_token_keywords]))) .nil) (pA (P:=Tryz.prog) (w:=W) (name:= "internal/strconv.uint64pow10") (g:=6) (k:=20) (t:=389) (e:=282) (ki:= .u64) (zs:=BZ) (cs:=gl6) dY dY dY dY dY dY dY dY (Lib.laidMet.reads a (by simp[Rows.goalDeadlocksRow,BZ,Rows.laid_internal_strconv_uint64pow10]))) .nil) (pA (P:=Tryz.prog) (w:=W) (name:= "math/bits.deBruijn32tab") (g:=7) (k:=32) (t:=391) (e:=5) (ki:= .u8) (zs:=BY) (cs:=gl7) dY dY dY dY dY dY dY dY (Lib.laidMet.reads a (by simp[Rows.goalDeadlocksRow,BY,Rows.laid_math_bits_deBruijn32tab]))) (.eY .nil (pA (P:=Tryz.prog) (w:=W) (name:= "math/bits.deBruijn64tab") (g:=8) (k:=64) (t:=392) (e:=5) (ki:= .u8) (zs:=BX) (cs:=gl8) dY dY dY dY dY dY dY dY (Lib.laidMet.reads a (by simp[Rows.goalDeadlocksRow,BX,Rows.laid_math_bits_deBruijn64tab]))) .nil))
def IW:ownKnob Tryz.prog.godebug=none:=dY
