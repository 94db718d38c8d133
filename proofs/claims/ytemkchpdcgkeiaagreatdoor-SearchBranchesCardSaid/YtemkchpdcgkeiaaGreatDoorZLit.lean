/- Values that come more than once in the run. By program (mkrunp.py). -/
import Derived.Test.YtemkchpdcgkeiaaGreatDoorTiJ5
set_option linter.unusedSimpArgs false
set_option linter.unusedVariables false
namespace Go.Proofs.YtemkchpdcgkeiaaGreatDoor
open Go Go.TI
set_option linter.unusedVariables false
set_option maxRecDepth 100000
def l0 : T := .agg [(.str [120]), (.int .i64 0), (.int .i64 0), (.bool false), (.int .i64 0)]
def l1 : T := .tree [l0, (.agg [(.str [121]), (.int .i64 0), (.int .i64 0), (.bool true), (.int .i64 0)])] false
def l2 : T := .agg [(.int .i64 0), (.int .i64 0), (.int .i64 1)]
def l3 : T := .agg [(.int .i64 0), (.int .i64 1), (.int .i64 1)]
def l4 : T := .agg [(.int .i64 1), (.int .i64 0), (.int .i64 1)]
def l5 : T := .tree [l2, l3, (.agg [(.int .i64 0), (.int .i64 2), (.int .i64 1)]), l4, (.agg [(.int .i64 1), (.int .i64 1), (.int .i64 1)])] false
def l6 : T := .agg [(.int .i64 24), (.int .i64 1), (.int .i64 0), (.int .i64 0), (.int .i64 0), (.int .i64 0)]
def l7 : T := .agg [(.int .i64 1), (.int .i64 0), (.int .i64 0), (.int .i64 0), (.int .i64 1), (.int .i64 1)]
def l8 : T := .agg [(.int .i64 8), (.int .i64 0), (.int .i64 0), (.int .i64 0), (.int .i64 0), (.int .i64 1)]
def l9 : T := .agg [(.int .i64 28), (.int .i64 0), (.int .i64 0), (.int .i64 0), (.int .i64 0), (.int .i64 (.negSucc 0))]
def l10 : T := .agg [(.int .i64 1), (.tree [l6, l7, l8, (.agg [(.int .i64 1), (.int .i64 0), (.int .i64 0), (.int .i64 0), (.int .i64 1), (.int .i64 2)]), (.agg [(.int .i64 8), (.int .i64 1), (.int .i64 0), (.int .i64 0), (.int .i64 0), (.int .i64 2)]), l9] false)]
def l11 : T := .agg [(.int .i64 6), (.int .i64 1), (.int .i64 1), (.int .i64 0), (.int .i64 0), (.int .i64 3)]
def l12 : T := .agg [(.int .i64 1), (.int .i64 1), (.int .i64 0), (.int .i64 0), (.int .i64 2), (.int .i64 4)]
def l13 : T := .agg [(.int .i64 8), (.int .i64 0), (.int .i64 1), (.int .i64 0), (.int .i64 0), (.int .i64 4)]
def l14 : T := .agg [l1, (.tree [] false), (.tree [] false), (.tree [] false), (.tree [(.str [116]), (.str [117])] false), l5, (.tree [l10, (.agg [(.int .i64 2), (.tree [l11, (.agg [(.int .i64 10), (.int .i64 1), (.int .i64 4), (.int .i64 0), (.int .i64 0), (.int .i64 3)]), l12, l13, l9] false)])] false)]
def l15 : T := .agg [(.int .i64 1), (.int .i64 0), (.bool false)]
def l16 : T := .agg [(.int .i64 0), (.int .i64 0), (.bool false)]
def l17 : T := .tree [(.int .i64 0), (.int .i64 0)] false
def l18 : T := .agg [(.int .i64 0), (.tree [(.int .i64 0)] false), (.tree [(.tree [] false)] false), (.int .i64 0)]
def l19 : T := .tree [(.tree [] false), (.tree [] false)] false
def l20 : T := .agg [(.int .i64 0), l17, l19, (.int .i64 0)]
def l21 : T := .agg [(.tree [] false), (.int .i64 (.negSucc 0)), (.tree [] false), (.tree [l15, l16] false), l17, (.tree [] false), (.tree [l18, l20] false)]
def l22 : T := .agg [(.int .i64 0), (.int .i64 (.negSucc 0))]
def l23 : T := .agg [(.int .i64 2), (.int .i64 0), (.bool false)]
def l24 : T := .agg [(.int .i64 0), (.tree [(.int .i64 0)] false), (.tree [(.tree [] false)] false), (.int .i64 1)]
def l25 : T := .agg [(.tree [] false), (.int .i64 (.negSucc 0)), (.tree [] false), (.tree [l23, l16] false), l17, (.tree [] false), (.tree [l24, l20] false)]
def l26 : T := .agg [(.int .i64 0), (.int .i64 1), (.int .i64 (.negSucc 0)), (.int .i64 0), (.int .i64 (.negSucc 0)), (.tree [] false), (.tree [] false)]
def l27 : T := .agg [(.int .i64 2), (.tree [(.int .i64 1)] false), (.tree [(.tree [] false)] false), (.int .i64 2)]
def l28 : T := .agg [(.tree [] false), (.int .i64 (.negSucc 0)), (.tree [] false), (.tree [l23, l15] false), l17, (.tree [] false), (.tree [l27, l20] false)]
def l29 : T := .agg [(.int .i64 0), (.int .i64 20), (.int .i64 1), (.int .i64 0), (.int .i64 0), (.tree [] false), (.tree [] false)]
def l30 : T := .agg [(.tree [] false), (.int .i64 (.negSucc 0)), (.tree [] false), (.tree [l23, l15] false), (.tree [(.int .i64 1), (.int .i64 0)] false), (.tree [] false), (.tree [(.agg [(.int .i64 4), (.tree [(.int .i64 1)] false), (.tree [(.tree [] false)] false), (.int .i64 3)]), l20] false)]
def l31 : T := .agg [(.int .i64 0), (.int .i64 4), (.int .i64 0), (.int .i64 1), (.int .i64 1), (.tree [] false), (.tree [] false)]
def l32 : T := .tree [(.int .i64 1), (.int .i64 1)] false
def l33 : T := .agg [(.tree [] false), (.int .i64 (.negSucc 0)), (.tree [] false), (.tree [l23, l15] false), l32, (.tree [] false), (.tree [(.agg [(.int .i64 5), (.tree [(.int .i64 1)] false), (.tree [(.tree [] false)] false), (.int .i64 4)]), l20] false)]
def l34 : T := .agg [(.int .i64 0), (.int .i64 4), (.int .i64 1), (.int .i64 1), (.int .i64 2), (.tree [] false), (.tree [] false)]
def l35 : T := .agg [(.int .i64 5), (.int .i64 0), (.bool false)]
def l36 : T := .agg [(.int .i64 5), (.tree [(.int .i64 1)] false), (.tree [(.tree [] false)] false), (.int .i64 5)]
def l37 : T := .agg [(.tree [] false), (.int .i64 (.negSucc 0)), (.tree [] false), (.tree [l35, l15] false), l32, (.tree [] false), (.tree [l36, l20] false)]
def l38 : T := .agg [(.int .i64 0), (.int .i64 2), (.int .i64 (.negSucc 0)), (.int .i64 0), (.int .i64 (.negSucc 0)), (.tree [] false), (.tree [] false)]
def l39 : T := .agg [(.int .i64 1), (.int .i64 (.negSucc 0))]
def l40 : T := .agg [(.tree [] false), (.int .i64 (.negSucc 0)), (.tree [] false), (.tree [l35, l23] false), l32, (.tree [] false), (.tree [l36, (.agg [(.int .i64 0), l17, l19, (.int .i64 1)])] false)]
def l41 : T := .agg [(.int .i64 1), (.int .i64 1), (.int .i64 (.negSucc 0)), (.int .i64 0), (.int .i64 (.negSucc 0)), (.tree [] false), (.tree [] false)]
def l42 : T := .agg [(.tree [] false), (.int .i64 (.negSucc 0)), (.tree [] false), (.tree [l35, l23] false), l32, (.tree [] false), (.tree [l36, (.agg [(.int .i64 1), (.tree [(.int .i64 0), (.int .i64 1)] false), (.tree [(.tree [] false), (.tree [(.int .i64 1)] false)] false), (.int .i64 2)])] false)]
def l43 : T := .agg [(.int .i64 1), (.int .i64 3), (.int .i64 1), (.int .i64 1), (.int .i64 3), (.tree [] false), (.tree [] false)]
def l44 : T := .tree [(.int .i64 0), (.int .i64 2)] false
def l45 : T := .agg [(.tree [] false), (.int .i64 (.negSucc 0)), (.tree [] false), (.tree [l35, l23] false), l32, (.tree [] false), (.tree [l36, (.agg [(.int .i64 3), l44, l19, (.int .i64 3)])] false)]
def l46 : T := .agg [(.int .i64 1), (.int .i64 5), (.int .i64 (.negSucc 0)), (.int .i64 1), (.int .i64 3), (.tree [(.int .i64 1)] false), (.tree [] false)]
def l47 : T := .tree [(.int .i64 2), (.int .i64 1)] false
def l48 : T := .agg [(.tree [] false), (.int .i64 (.negSucc 0)), (.tree [] false), (.tree [l35, l23] false), l47, (.tree [] false), (.tree [l36, (.agg [(.int .i64 4), l44, l19, (.int .i64 4)])] false)]
def l49 : T := .agg [(.int .i64 1), (.int .i64 4), (.int .i64 0), (.int .i64 2), (.int .i64 4), (.tree [] false), (.tree [] false)]
def l50 : T := .agg [(.tree [] false), (.int .i64 (.negSucc 0)), (.tree [] false), (.tree [l35, l35] false), l47, (.tree [] false), (.tree [l36, (.agg [(.int .i64 4), l44, l19, (.int .i64 5)])] false)]
def l51 : T := .agg [(.int .i64 1), (.int .i64 2), (.int .i64 (.negSucc 0)), (.int .i64 0), (.int .i64 (.negSucc 0)), (.tree [] false), (.tree [] false)]
def l52 : T := .tree [l26, l29, l31, l34, l38, l41, l43, l46, l49, l51] false
def l53 : T := .agg [l1, (.tree [] false), (.tree [] false), (.tree [] false), (.tree [(.str [116]), (.str [117])] false), l5, (.int .i64 0), (.tree [] false), (.int .i64 (.negSucc 0)), (.tree [] false), (.tree [l15, l16] false), l17, (.tree [] false), l17, l52]
def l54 : T := .agg [l1, (.tree [] false), (.tree [] false), (.tree [] false), (.tree [(.str [116]), (.str [117])] false), l5, (.tree [l10, (.agg [(.int .i64 2), (.tree [l11, (.agg [(.int .i64 2), (.int .i64 0), (.int .i64 1), (.int .i64 0), (.int .i64 0), (.int .i64 3)]), l12, l13, l9] false)])] false)]
def l55 : T := .tree [(.int .i64 1), (.int .i64 2)] false
def l56 : T := .tree [(.tree [(.int .i64 1)] false), (.tree [] false)] false
def l57 : T := .agg [(.tree [] false), (.int .i64 (.negSucc 0)), (.tree [] false), (.tree [l35, l23] false), l32, (.tree [] false), (.tree [l36, (.agg [(.int .i64 3), l55, l56, (.int .i64 2)])] false)]
def l58 : T := .agg [(.tree [] false), (.int .i64 (.negSucc 0)), (.tree [] false), (.tree [l35, l23] false), l47, (.tree [] false), (.tree [l36, (.agg [(.int .i64 4), l55, l56, (.int .i64 3)])] false)]
def l59 : T := .agg [(.tree [] false), (.int .i64 (.negSucc 0)), (.tree [] false), (.tree [l35, l35] false), l47, (.tree [] false), (.tree [l36, (.agg [(.int .i64 4), l55, l56, (.int .i64 4)])] false)]
def l60 : T := .tree [l26, l29, l31, l34, l38, l41, l43, l49, l51] false
def l61 : T := .agg [l1, (.tree [] false), (.tree [] false), (.tree [] false), (.tree [(.str [116]), (.str [117])] false), l5, (.int .i64 0), (.tree [] false), (.int .i64 (.negSucc 0)), (.tree [] false), (.tree [l15, l16] false), l17, (.tree [] false), l17, l60]
def l62 : T := .agg [(.tree [] false), (.int .i64 (.negSucc 0)), (.tree [] false), (.tree [l35, l15] false), l32, (.tree [] false), (.tree [(.int .i64 5), (.int .i64 0)] false)]
def l63 : T := .agg [(.tree [] false), (.int .i64 (.negSucc 0)), (.tree [] false), (.tree [l35, l23] false), l32, (.tree [] false), (.tree [(.int .i64 5), (.int .i64 1)] false)]
def l64 : T := .agg [(.tree [] false), (.int .i64 (.negSucc 0)), (.tree [] false), (.tree [l35, l23] false), l32, (.tree [] false), (.tree [(.int .i64 5), (.int .i64 2)] false)]
def l65 : T := .tree [(.int .i64 5), (.int .i64 3)] false
def l66 : T := .tree [(.agg [(.int .i64 1), (.int .i64 2), (.int .i64 7), (.int .i64 0), (.int .i64 0), (.tree [] false)])] false
def l67 : T := .agg [(.tree [l0] false), (.tree [] false), (.tree [] false), (.tree [] false), (.tree [(.str [116]), (.str [117])] false), (.tree [l2, l3, l4] false), (.tree [(.agg [(.int .i64 1), (.tree [l6, l7, l8, l9] false)]), (.agg [(.int .i64 1), (.tree [(.agg [(.int .i64 1), (.int .i64 0), (.int .i64 0), (.int .i64 0), (.int .i64 2), (.int .i64 2)]), (.agg [(.int .i64 8), (.int .i64 0), (.int .i64 0), (.int .i64 0), (.int .i64 0), (.int .i64 2)]), l9] false)])] false)]
def l68 : T := .agg [(.tree [] false), (.int .i64 (.negSucc 0)), (.tree [] false), (.tree [l23, l16] false), (.tree [(.int .i64 0)] false), (.tree [] false), (.tree [l24, l18] false)]
def l69 : T := .agg [(.tree [] false), (.int .i64 (.negSucc 0)), (.tree [] false), (.tree [l23, l15] false), (.tree [(.int .i64 0)] false), (.tree [] false), (.tree [l27, l18] false)]
def l70 : T := .agg [(.tree [] false), (.int .i64 (.negSucc 0)), (.tree [] false), (.tree [l23, l15] false), (.tree [(.int .i64 1)] false), (.tree [] false), (.tree [(.agg [(.int .i64 3), (.tree [(.int .i64 1)] false), (.tree [(.tree [] false)] false), (.int .i64 3)]), l18] false)]
def l71 : T := .agg [(.int .i64 3), (.tree [(.int .i64 1)] false), (.tree [(.tree [] false)] false), (.int .i64 4)]
def l72 : T := .agg [(.tree [] false), (.int .i64 (.negSucc 0)), (.tree [] false), (.tree [l35, l15] false), (.tree [(.int .i64 1)] false), (.tree [] false), (.tree [l71, l18] false)]
def l73 : T := .agg [(.tree [] false), (.int .i64 (.negSucc 0)), (.tree [] false), (.tree [l35, l23] false), (.tree [(.int .i64 1)] false), (.tree [] false), (.tree [l71, (.agg [(.int .i64 1), (.tree [(.int .i64 2)] false), (.tree [(.tree [] false)] false), (.int .i64 1)])] false)]
def l74 : T := .agg [(.tree [] false), (.int .i64 (.negSucc 0)), (.tree [] false), (.tree [l35, l23] false), (.tree [(.int .i64 2)] false), (.tree [] false), (.tree [l71, (.agg [(.int .i64 2), (.tree [(.int .i64 2)] false), (.tree [(.tree [] false)] false), (.int .i64 2)])] false)]
def l75 : T := .agg [(.int .i64 1), (.int .i64 4), (.int .i64 0), (.int .i64 2), (.int .i64 2), (.tree [] false), (.tree [] false)]
def l76 : T := .agg [(.tree [] false), (.int .i64 (.negSucc 0)), (.tree [] false), (.tree [l35, l35] false), (.tree [(.int .i64 2)] false), (.tree [] false), (.tree [l71, (.agg [(.int .i64 2), (.tree [(.int .i64 2)] false), (.tree [(.tree [] false)] false), (.int .i64 3)])] false)]
end Go.Proofs.YtemkchpdcgkeiaaGreatDoor
