/- AInvalidFacts -/
import Derived.Test.YtbappgeamhmmbaaGreatDoorA7
import Derived.Test.YtbappgeamhmmbaaGreatDoorA37
import Derived.Lay
import Derived.LaidOnce
import Derived.Test.YtbappgeamhmmbaaGreatDoorCards
import Derived.Test.YtbappgeamhmmbaaGreatDoorTie
import Derived.ProofKit
import Derived.SevenTiedAt
set_option linter.all false
set_option maxRecDepth 100000
set_option maxHeartbeats 0
namespace Go.Proofs.YtbappgeamhmmbaaGreatDoor
noncomputable section
open Go Go.TI Go.RowKit Go.ChangeShapes Go.WideShapes
def uM:joinedFacts Tryz.prog 3 Tryz.f3 Rows.searchInvalidSpec Rows.searchInvalidRow=true:=by
 unfold joinedFacts
 iterate 31 rw [az]
 repeat' refine And.intro ?_ ?_
 all_goals as_aux_lemma=>kernel_rfl
def zj:Rows.searchInvalidRow.wfByText (OpenSpec.ofChange Rows.searchInvalidSpec)=true:=dz
def xa:Tryz.prog.mainIs=some (true,"e975a56edcbc2268a8e17d7c5f96900bc9fae82f87bc7463c3be052f0b8bcde6".toList):=dz
def wz:true=Tryz.prog.looks []:=dz
def xc:false=Rows.searchInvalidRow.goesBy Tryz.prog:=dz
def pX:Tryz.prog.funcNamed "interleave/interleavelaw21.SearchInvalid" =some 3:=dz
def kw0:List Int:=[1,10,100,1000,10000,100000,1000000,10000000,100000000,1000000000,10000000000,100000000000,1000000000000,10000000000000,100000000000000,1000000000000000,10000000000000000,100000000000000000,1000000000000000000,10000000000000000000]
def kw1:List (List UInt8):=[[118,97,114],[118,111,108,97,116,105,108,101],[109,117,116,101,120],[114,119,108,111,99,107],[99,111,110,100],[102,117,116,117,114,101],[116,104,114,101,97,100],[105,102],[101,108,115,101],[119,104,105,108,101],[108,111,99,107],[114,101,97,100],[119,114,105,116,101],[116,114,97,110,115,97,99,116,105,111,110],[97,116,111,109,105,99],[119,97,105,116],[110,111,116,105,102,121],[110,111,116,105,102,121,97,108,108],[115,112,97,119,110],[106,111,105,110],[115,101,116],[103,101,116]]
def kw2:List Int:=[0,1,28,2,29,14,24,3,30,22,20,15,25,17,4,8,31,27,13,23,21,19,16,7,26,12,18,6,11,5,10,9]
def kw3:List Int:=[0,1,56,2,57,49,28,3,61,58,42,50,38,29,17,4,62,47,59,36,45,43,51,22,53,39,33,30,24,18,12,5,63,55,48,27,60,41,37,16,46,35,44,21,52,32,23,11,54,26,40,15,34,20,31,10,25,14,19,9,13,8,7,6]
def VV(W:World)(a:laidMet Tryz.prog Rows.searchInvalidRow.laid W):gls.Qm λg cs=>eK W.heap nz (.jh cs) (.pointer (some ⟨g,0,none⟩)):=(.node (.node (.node .nil (Ab (P:=Tryz.prog) (w:=W) (name:= "internal/strconv.uint64pow10") (g:=0) (k:=20) (t:=331) (e:=246) (ki:= .u64) (zs:=kw0) (cs:=gl0) dz dz dz dz dz dz dz dz (Lib.laidMet.reads a (by simp[Rows.searchInvalidRow,kw0,Rows.laid_internal_strconv_uint64pow10]))) .nil) (E3 (P:=Tryz.prog) (w:=W) (name:= "interleave/token.keywords") (g:=1) (k:=22) (t:=352) (e:=9) (ss:=kw1) (cs:=gl1) dz dz dz dz dz dz dz dz (Lib.laidMet.reads a (by simp[Rows.searchInvalidRow,kw1,Rows.laid_interleave_token_keywords]))) .nil) (Ab (P:=Tryz.prog) (w:=W) (name:= "math/bits.deBruijn32tab") (g:=2) (k:=32) (t:=373) (e:=5) (ki:= .u8) (zs:=kw2) (cs:=gl2) dz dz dz dz dz dz dz dz (Lib.laidMet.reads a (by simp[Rows.searchInvalidRow,kw2,Rows.laid_math_bits_deBruijn32tab]))) (.node .nil (Ab (P:=Tryz.prog) (w:=W) (name:= "math/bits.deBruijn64tab") (g:=3) (k:=64) (t:=374) (e:=5) (ki:= .u8) (zs:=kw3) (cs:=gl3) dz dz dz dz dz dz dz dz (Lib.laidMet.reads a (by simp[Rows.searchInvalidRow,kw3,Rows.laid_math_bits_deBruijn64tab]))) .nil))
def own:ownKnob Tryz.prog.godebug=none:=dz
