/- Values that come more than once in the run. By program (mkrunp.py). -/
import Derived.Test.YtemkchpdcgkeiaaGreatDoorTiJ5
set_option linter.unusedSimpArgs false
set_option linter.unusedVariables false
namespace Go.Proofs.YtemkchpdcgkeiaaGreatDoor
open Go Go.TI
set_option linter.unusedVariables false
set_option maxRecDepth 100000
def l0 : T := .tree [(.agg [(.str [120]), (.int .i64 0), (.int .i64 0), (.bool false), (.int .i64 0)])] false
def l1 : T := .agg [(.int .i64 0), (.int .i64 0), (.int .i64 1)]
def l2 : T := .agg [(.int .i64 0), (.int .i64 1), (.int .i64 1)]
def l3 : T := .agg [(.int .i64 1), (.int .i64 0), (.int .i64 1)]
def l4 : T := .agg [(.int .i64 24), (.int .i64 1), (.int .i64 0), (.int .i64 0), (.int .i64 0), (.int .i64 0)]
def l5 : T := .agg [(.int .i64 28), (.int .i64 0), (.int .i64 0), (.int .i64 0), (.int .i64 0), (.int .i64 (.negSucc 0))]
def l6 : T := .agg [(.int .i64 8), (.int .i64 0), (.int .i64 0), (.int .i64 0), (.int .i64 0), (.int .i64 2)]
def l7 : T := .agg [l0, (.tree [] false), (.tree [] false), (.tree [] false), (.tree [(.str [116]), (.str [117])] false), (.tree [l1, l2, l3] false), (.tree [(.agg [(.int .i64 1), (.tree [l4, (.agg [(.int .i64 1), (.int .i64 0), (.int .i64 0), (.int .i64 0), (.int .i64 1), (.int .i64 1)]), (.agg [(.int .i64 8), (.int .i64 0), (.int .i64 0), (.int .i64 0), (.int .i64 0), (.int .i64 1)]), l5] false)]), (.agg [(.int .i64 1), (.tree [(.agg [(.int .i64 1), (.int .i64 0), (.int .i64 0), (.int .i64 0), (.int .i64 2), (.int .i64 2)]), l6, l5] false)])] false)]
def l8 : T := .tree [(.agg [(.str [109]), (.bool false)])] false
def l9 : T := .tree [l1, l2, (.agg [(.int .i64 0), (.int .i64 2), (.int .i64 1)]), l3, (.agg [(.int .i64 1), (.int .i64 1), (.int .i64 1)])] false
def l10 : T := .agg [l0, l8, (.tree [] false), (.tree [] false), (.tree [(.str [116]), (.str [117])] false), l9, (.tree [(.agg [(.int .i64 1), (.tree [l4, (.agg [(.int .i64 11), (.int .i64 0), (.int .i64 0), (.int .i64 0), (.int .i64 0), (.int .i64 1)]), (.agg [(.int .i64 1), (.int .i64 0), (.int .i64 0), (.int .i64 0), (.int .i64 1), (.int .i64 2)]), l6, (.agg [(.int .i64 12), (.int .i64 0), (.int .i64 0), (.int .i64 0), (.int .i64 0), (.int .i64 1)]), l5] false)]), (.agg [(.int .i64 1), (.tree [(.agg [(.int .i64 11), (.int .i64 0), (.int .i64 0), (.int .i64 0), (.int .i64 0), (.int .i64 3)]), (.agg [(.int .i64 1), (.int .i64 0), (.int .i64 0), (.int .i64 0), (.int .i64 2), (.int .i64 4)]), (.agg [(.int .i64 8), (.int .i64 0), (.int .i64 0), (.int .i64 0), (.int .i64 0), (.int .i64 4)]), (.agg [(.int .i64 12), (.int .i64 0), (.int .i64 0), (.int .i64 0), (.int .i64 0), (.int .i64 3)]), l5] false)])] false)]
end Go.Proofs.YtemkchpdcgkeiaaGreatDoor
