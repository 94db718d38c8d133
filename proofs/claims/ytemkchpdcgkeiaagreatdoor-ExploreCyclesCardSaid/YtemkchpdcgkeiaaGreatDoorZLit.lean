/- Values that come more than once in the run. By program (mkrunp.py). -/
import Derived.Test.YtemkchpdcgkeiaaGreatDoorTiJ5
set_option linter.unusedSimpArgs false
set_option linter.unusedVariables false
namespace Go.Proofs.YtemkchpdcgkeiaaGreatDoor
open Go Go.TI
set_option linter.unusedVariables false
set_option maxRecDepth 100000
def l0 : T := .tree [(.agg [(.str [109]), (.bool false)]), (.agg [(.str [110]), (.bool false)])] false
def l1 : T := .agg [(.int .i64 0), (.int .i64 0), (.int .i64 1)]
def l2 : T := .tree [l1, (.agg [(.int .i64 0), (.int .i64 1), (.int .i64 1)]), (.agg [(.int .i64 0), (.int .i64 2), (.int .i64 1)]), (.agg [(.int .i64 1), (.int .i64 0), (.int .i64 1)]), (.agg [(.int .i64 1), (.int .i64 1), (.int .i64 1)])] false
def l3 : T := .agg [(.int .i64 28), (.int .i64 0), (.int .i64 0), (.int .i64 0), (.int .i64 0), (.int .i64 (.negSucc 0))]
def l4 : T := .agg [(.int .i64 0), (.tree [(.agg [(.int .i64 24), (.int .i64 1), (.int .i64 0), (.int .i64 0), (.int .i64 0), (.int .i64 0)]), (.agg [(.int .i64 11), (.int .i64 0), (.int .i64 0), (.int .i64 0), (.int .i64 0), (.int .i64 1)]), (.agg [(.int .i64 11), (.int .i64 1), (.int .i64 0), (.int .i64 0), (.int .i64 0), (.int .i64 2)]), (.agg [(.int .i64 12), (.int .i64 1), (.int .i64 0), (.int .i64 0), (.int .i64 0), (.int .i64 2)]), (.agg [(.int .i64 12), (.int .i64 0), (.int .i64 0), (.int .i64 0), (.int .i64 0), (.int .i64 1)]), l3] false)]
def l5 : T := .agg [(.tree [] false), l0, (.tree [] false), (.tree [] false), (.tree [(.str [116]), (.str [117])] false), l2, (.tree [l4, (.agg [(.int .i64 0), (.tree [(.agg [(.int .i64 11), (.int .i64 1), (.int .i64 0), (.int .i64 0), (.int .i64 0), (.int .i64 3)]), (.agg [(.int .i64 11), (.int .i64 0), (.int .i64 0), (.int .i64 0), (.int .i64 0), (.int .i64 4)]), (.agg [(.int .i64 12), (.int .i64 0), (.int .i64 0), (.int .i64 0), (.int .i64 0), (.int .i64 4)]), (.agg [(.int .i64 12), (.int .i64 1), (.int .i64 0), (.int .i64 0), (.int .i64 0), (.int .i64 3)]), l3] false)])] false)]
def l6 : T := .agg [(.tree [] false), l0, (.tree [] false), (.tree [] false), (.tree [(.str [116]), (.str [117])] false), l2, (.tree [l4, (.agg [(.int .i64 0), (.tree [(.agg [(.int .i64 11), (.int .i64 0), (.int .i64 0), (.int .i64 0), (.int .i64 0), (.int .i64 3)]), (.agg [(.int .i64 11), (.int .i64 1), (.int .i64 0), (.int .i64 0), (.int .i64 0), (.int .i64 4)]), (.agg [(.int .i64 12), (.int .i64 1), (.int .i64 0), (.int .i64 0), (.int .i64 0), (.int .i64 4)]), (.agg [(.int .i64 12), (.int .i64 0), (.int .i64 0), (.int .i64 0), (.int .i64 0), (.int .i64 3)]), l3] false)])] false)]
def l7 : T := .tree [(.agg [(.str [120]), (.int .i64 0), (.int .i64 0), (.bool false), (.int .i64 0)])] false
end Go.Proofs.YtemkchpdcgkeiaaGreatDoor
