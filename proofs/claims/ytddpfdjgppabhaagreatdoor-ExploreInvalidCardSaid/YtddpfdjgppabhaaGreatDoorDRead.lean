/- How arguments are read. By program (mkrd.py). -/
import Derived.Test.YtddpfdjgppabhaaGreatDoorDData
import Derived.Test.YtddpfdjgppabhaaGreatDoorDFun
import Derived.Test.YtddpfdjgppabhaaGreatDoorTiJ7
set_option linter.unusedSimpArgs false
set_option linter.unusedVariables false
namespace Go.Proofs.YtddpfdjgppabhaaGreatDoor
open Go Go.TI
set_option linter.unusedVariables false
set_option maxRecDepth 100000
def ok9 (x : List Nat) : Prop := x.length ≤ 140737488351232
theorem rd9 : Rd Tryz.prog 9 1 fun ts => ∃ x : List Nat, ts = (fun x : List Nat => [T.str x]) x ∧ ok9 x := rdStrT tysOk cxty9 rfl rfl
def ok3 (x : Int) : Prop := IntKind.min .i64 ≤ x ∧ x ≤ IntKind.max .i64
theorem rd3 : Rd Tryz.prog 3 1 fun ts => ∃ x : Int, ts = (fun x : Int => [(T.int .i64) x]) x ∧ ok3 x := rdIntT tysOk cxty3 rfl rfl
def ok4 (x : Bool) : Prop := True
theorem rd4 : Rd Tryz.prog 4 1 fun ts => ∃ x : Bool, ts = (fun x : Bool => [T.bool x]) x ∧ ok4 x := rdBoolT tysOk cxty4 rfl rfl
def ok2 (x : Int) : Prop := IntKind.min .i64 ≤ x ∧ x ≤ IntKind.max .i64
theorem rd2 : Rd Tryz.prog 2 1 fun ts => ∃ x : Int, ts = (fun x : Int => [(T.int .i64) x]) x ∧ ok2 x := rdIntT tysOk cxty2 rfl rfl
def ok109 (x : NCell) : Prop := ok9 x.name ∧ ok3 x.index ∧ ok3 x.size ∧ ok4 x.volatile ∧ ok2 x.ini
theorem rd109 : Rd Tryz.prog 109 5 fun ts => ∃ x : NCell, ts = x.cs ∧ ok109 x := by
  refine (rdStructT tysOk cxty109 rfl rfl (n := 5) (.cons _ _ _ _ _ _ _ rfl rd9 (.cons _ _ _ _ _ _ _ rfl rd3 (.cons _ _ _ _ _ _ _ rfl rd3 (.cons _ _ _ _ _ _ _ rfl rd4 (.cons _ _ _ _ _ _ _ rfl rd2 (.nil _)))))) ?_).imp ?_
  · intro ts c0
    obtain ⟨_, _, rfl, ⟨x0, rfl, h0⟩, c1⟩ := c0.inv
    obtain ⟨_, _, rfl, ⟨x1, rfl, h1⟩, c2⟩ := c1.inv
    obtain ⟨_, _, rfl, ⟨x2, rfl, h2⟩, c3⟩ := c2.inv
    obtain ⟨_, _, rfl, ⟨x3, rfl, h3⟩, c4⟩ := c3.inv
    obtain ⟨_, _, rfl, ⟨x4, rfl, h4⟩, c5⟩ := c4.inv
    have cn := c5.nilInv
    subst cn
    rfl
  · intro ts c0
    obtain ⟨_, _, rfl, ⟨x0, rfl, h0⟩, c1⟩ := c0.inv
    obtain ⟨_, _, rfl, ⟨x1, rfl, h1⟩, c2⟩ := c1.inv
    obtain ⟨_, _, rfl, ⟨x2, rfl, h2⟩, c3⟩ := c2.inv
    obtain ⟨_, _, rfl, ⟨x3, rfl, h3⟩, c4⟩ := c3.inv
    obtain ⟨_, _, rfl, ⟨x4, rfl, h4⟩, c5⟩ := c4.inv
    have cn := c5.nilInv
    subst cn
    exact ⟨⟨x0, x1, x2, x3, x4⟩, rfl, h0, h1, h2, h3, h4⟩
def ok22 (x : List NCell) : Prop := x.length * 48 ≤ 140737488351232 ∧ ∀ y ∈ x, ok109 y
theorem rd22 : Rd Tryz.prog 22 1 fun ts => ∃ x : List NCell, ts = (fun x : List NCell => [(fun l : List NCell => sl (l.map NCell.t)) x]) x ∧ ok22 x := rdSliceT tysOk cxty22 rfl rfl cxty109 rd109 (by omega) true (by simp) fun _ => rfl
def ok92 (x : NLock) : Prop := ok9 x.name ∧ ok4 x.rW
theorem rd92 : Rd Tryz.prog 92 2 fun ts => ∃ x : NLock, ts = x.cs ∧ ok92 x := by
  refine (rdStructT tysOk cxty92 rfl rfl (n := 2) (.cons _ _ _ _ _ _ _ rfl rd9 (.cons _ _ _ _ _ _ _ rfl rd4 (.nil _))) ?_).imp ?_
  · intro ts c0
    obtain ⟨_, _, rfl, ⟨x0, rfl, h0⟩, c1⟩ := c0.inv
    obtain ⟨_, _, rfl, ⟨x1, rfl, h1⟩, c2⟩ := c1.inv
    have cn := c2.nilInv
    subst cn
    rfl
  · intro ts c0
    obtain ⟨_, _, rfl, ⟨x0, rfl, h0⟩, c1⟩ := c0.inv
    obtain ⟨_, _, rfl, ⟨x1, rfl, h1⟩, c2⟩ := c1.inv
    have cn := c2.nilInv
    subst cn
    exact ⟨⟨x0, x1⟩, rfl, h0, h1⟩
def ok23 (x : List NLock) : Prop := x.length * 24 ≤ 140737488351232 ∧ ∀ y ∈ x, ok92 y
theorem rd23 : Rd Tryz.prog 23 1 fun ts => ∃ x : List NLock, ts = (fun x : List NLock => [(fun l : List NLock => sl (l.map NLock.t)) x]) x ∧ ok23 x := rdSliceT tysOk cxty23 rfl rfl cxty92 rd92 (by omega) true (by simp) fun _ => rfl
def ok90 (x : NCond) : Prop := ok9 x.name ∧ ok3 x.mutex
theorem rd90 : Rd Tryz.prog 90 2 fun ts => ∃ x : NCond, ts = x.cs ∧ ok90 x := by
  refine (rdStructT tysOk cxty90 rfl rfl (n := 2) (.cons _ _ _ _ _ _ _ rfl rd9 (.cons _ _ _ _ _ _ _ rfl rd3 (.nil _))) ?_).imp ?_
  · intro ts c0
    obtain ⟨_, _, rfl, ⟨x0, rfl, h0⟩, c1⟩ := c0.inv
    obtain ⟨_, _, rfl, ⟨x1, rfl, h1⟩, c2⟩ := c1.inv
    have cn := c2.nilInv
    subst cn
    rfl
  · intro ts c0
    obtain ⟨_, _, rfl, ⟨x0, rfl, h0⟩, c1⟩ := c0.inv
    obtain ⟨_, _, rfl, ⟨x1, rfl, h1⟩, c2⟩ := c1.inv
    have cn := c2.nilInv
    subst cn
    exact ⟨⟨x0, x1⟩, rfl, h0, h1⟩
def ok24 (x : List NCond) : Prop := x.length * 24 ≤ 140737488351232 ∧ ∀ y ∈ x, ok90 y
theorem rd24 : Rd Tryz.prog 24 1 fun ts => ∃ x : List NCond, ts = (fun x : List NCond => [(fun l : List NCond => sl (l.map NCond.t)) x]) x ∧ ok24 x := rdSliceT tysOk cxty24 rfl rfl cxty90 rd90 (by omega) true (by simp) fun _ => rfl
def ok25 (x : List (List Nat)) : Prop := x.length * 16 ≤ 140737488351232 ∧ ∀ y ∈ x, ok9 y
theorem rd25 : Rd Tryz.prog 25 1 fun ts => ∃ x : List (List Nat), ts = (fun x : List (List Nat) => [(fun l : List (List Nat) => sl (l.map T.str)) x]) x ∧ ok25 x := rdSliceT tysOk cxty25 rfl rfl cxty9 rd9 (by omega) false (by simp) fun _ => rfl
def ok94 (x : NSite) : Prop := ok3 x.thread ∧ ok3 x.stmt ∧ ok3 x.line
theorem rd94 : Rd Tryz.prog 94 3 fun ts => ∃ x : NSite, ts = x.cs ∧ ok94 x := by
  refine (rdStructT tysOk cxty94 rfl rfl (n := 3) (.cons _ _ _ _ _ _ _ rfl rd3 (.cons _ _ _ _ _ _ _ rfl rd3 (.cons _ _ _ _ _ _ _ rfl rd3 (.nil _)))) ?_).imp ?_
  · intro ts c0
    obtain ⟨_, _, rfl, ⟨x0, rfl, h0⟩, c1⟩ := c0.inv
    obtain ⟨_, _, rfl, ⟨x1, rfl, h1⟩, c2⟩ := c1.inv
    obtain ⟨_, _, rfl, ⟨x2, rfl, h2⟩, c3⟩ := c2.inv
    have cn := c3.nilInv
    subst cn
    rfl
  · intro ts c0
    obtain ⟨_, _, rfl, ⟨x0, rfl, h0⟩, c1⟩ := c0.inv
    obtain ⟨_, _, rfl, ⟨x1, rfl, h1⟩, c2⟩ := c1.inv
    obtain ⟨_, _, rfl, ⟨x2, rfl, h2⟩, c3⟩ := c2.inv
    have cn := c3.nilInv
    subst cn
    exact ⟨⟨x0, x1, x2⟩, rfl, h0, h1, h2⟩
def ok26 (x : List NSite) : Prop := x.length * 24 ≤ 140737488351232 ∧ ∀ y ∈ x, ok94 y
theorem rd26 : Rd Tryz.prog 26 1 fun ts => ∃ x : List NSite, ts = (fun x : List NSite => [(fun l : List NSite => sl (l.map NSite.t)) x]) x ∧ ok26 x := rdSliceT tysOk cxty26 rfl rfl cxty94 rd94 (by omega) true (by simp) fun _ => rfl
def ok28 (x : NWorld) : Prop := ok22 x.cells ∧ ok23 x.locks ∧ ok24 x.conds ∧ ok25 x.futures ∧ ok25 x.threads ∧ ok26 x.sites
theorem rd28 : Rd Tryz.prog 28 6 fun ts => ∃ x : NWorld, ts = x.cs ∧ ok28 x := by
  refine (rdStructT tysOk cxty28 rfl rfl (n := 6) (.cons _ _ _ _ _ _ _ rfl rd22 (.cons _ _ _ _ _ _ _ rfl rd23 (.cons _ _ _ _ _ _ _ rfl rd24 (.cons _ _ _ _ _ _ _ rfl rd25 (.cons _ _ _ _ _ _ _ rfl rd25 (.cons _ _ _ _ _ _ _ rfl rd26 (.nil _))))))) ?_).imp ?_
  · intro ts c0
    obtain ⟨_, _, rfl, ⟨x0, rfl, h0⟩, c1⟩ := c0.inv
    obtain ⟨_, _, rfl, ⟨x1, rfl, h1⟩, c2⟩ := c1.inv
    obtain ⟨_, _, rfl, ⟨x2, rfl, h2⟩, c3⟩ := c2.inv
    obtain ⟨_, _, rfl, ⟨x3, rfl, h3⟩, c4⟩ := c3.inv
    obtain ⟨_, _, rfl, ⟨x4, rfl, h4⟩, c5⟩ := c4.inv
    obtain ⟨_, _, rfl, ⟨x5, rfl, h5⟩, c6⟩ := c5.inv
    have cn := c6.nilInv
    subst cn
    rfl
  · intro ts c0
    obtain ⟨_, _, rfl, ⟨x0, rfl, h0⟩, c1⟩ := c0.inv
    obtain ⟨_, _, rfl, ⟨x1, rfl, h1⟩, c2⟩ := c1.inv
    obtain ⟨_, _, rfl, ⟨x2, rfl, h2⟩, c3⟩ := c2.inv
    obtain ⟨_, _, rfl, ⟨x3, rfl, h3⟩, c4⟩ := c3.inv
    obtain ⟨_, _, rfl, ⟨x4, rfl, h4⟩, c5⟩ := c4.inv
    obtain ⟨_, _, rfl, ⟨x5, rfl, h5⟩, c6⟩ := c5.inv
    have cn := c6.nilInv
    subst cn
    exact ⟨⟨x0, x1, x2, x3, x4, x5⟩, rfl, h0, h1, h2, h3, h4, h5⟩
def ok96 (x : NInstr) : Prop := ok3 x.op ∧ ok3 x.a ∧ ok3 x.b ∧ ok3 x.c ∧ ok2 x.n ∧ ok3 x.site
theorem rd96 : Rd Tryz.prog 96 6 fun ts => ∃ x : NInstr, ts = x.cs ∧ ok96 x := by
  refine (rdStructT tysOk cxty96 rfl rfl (n := 6) (.cons _ _ _ _ _ _ _ rfl rd3 (.cons _ _ _ _ _ _ _ rfl rd3 (.cons _ _ _ _ _ _ _ rfl rd3 (.cons _ _ _ _ _ _ _ rfl rd3 (.cons _ _ _ _ _ _ _ rfl rd2 (.cons _ _ _ _ _ _ _ rfl rd3 (.nil _))))))) ?_).imp ?_
  · intro ts c0
    obtain ⟨_, _, rfl, ⟨x0, rfl, h0⟩, c1⟩ := c0.inv
    obtain ⟨_, _, rfl, ⟨x1, rfl, h1⟩, c2⟩ := c1.inv
    obtain ⟨_, _, rfl, ⟨x2, rfl, h2⟩, c3⟩ := c2.inv
    obtain ⟨_, _, rfl, ⟨x3, rfl, h3⟩, c4⟩ := c3.inv
    obtain ⟨_, _, rfl, ⟨x4, rfl, h4⟩, c5⟩ := c4.inv
    obtain ⟨_, _, rfl, ⟨x5, rfl, h5⟩, c6⟩ := c5.inv
    have cn := c6.nilInv
    subst cn
    rfl
  · intro ts c0
    obtain ⟨_, _, rfl, ⟨x0, rfl, h0⟩, c1⟩ := c0.inv
    obtain ⟨_, _, rfl, ⟨x1, rfl, h1⟩, c2⟩ := c1.inv
    obtain ⟨_, _, rfl, ⟨x2, rfl, h2⟩, c3⟩ := c2.inv
    obtain ⟨_, _, rfl, ⟨x3, rfl, h3⟩, c4⟩ := c3.inv
    obtain ⟨_, _, rfl, ⟨x4, rfl, h4⟩, c5⟩ := c4.inv
    obtain ⟨_, _, rfl, ⟨x5, rfl, h5⟩, c6⟩ := c5.inv
    have cn := c6.nilInv
    subst cn
    exact ⟨⟨x0, x1, x2, x3, x4, x5⟩, rfl, h0, h1, h2, h3, h4, h5⟩
def ok44 (x : List NInstr) : Prop := x.length * 48 ≤ 140737488351232 ∧ ∀ y ∈ x, ok96 y
theorem rd44 : Rd Tryz.prog 44 1 fun ts => ∃ x : List NInstr, ts = (fun x : List NInstr => [(fun l : List NInstr => sl (l.map NInstr.t)) x]) x ∧ ok44 x := rdSliceT tysOk cxty44 rfl rfl cxty96 rd96 (by omega) true (by simp) fun _ => rfl
def ok46 (x : NThreadCode) : Prop := ok3 x.regs ∧ ok44 x.instrs
theorem rd46 : Rd Tryz.prog 46 2 fun ts => ∃ x : NThreadCode, ts = x.cs ∧ ok46 x := by
  refine (rdStructT tysOk cxty46 rfl rfl (n := 2) (.cons _ _ _ _ _ _ _ rfl rd3 (.cons _ _ _ _ _ _ _ rfl rd44 (.nil _))) ?_).imp ?_
  · intro ts c0
    obtain ⟨_, _, rfl, ⟨x0, rfl, h0⟩, c1⟩ := c0.inv
    obtain ⟨_, _, rfl, ⟨x1, rfl, h1⟩, c2⟩ := c1.inv
    have cn := c2.nilInv
    subst cn
    rfl
  · intro ts c0
    obtain ⟨_, _, rfl, ⟨x0, rfl, h0⟩, c1⟩ := c0.inv
    obtain ⟨_, _, rfl, ⟨x1, rfl, h1⟩, c2⟩ := c1.inv
    have cn := c2.nilInv
    subst cn
    exact ⟨⟨x0, x1⟩, rfl, h0, h1⟩
def ok29 (x : List NThreadCode) : Prop := x.length * 32 ≤ 140737488351232 ∧ ∀ y ∈ x, ok46 y
theorem rd29 : Rd Tryz.prog 29 1 fun ts => ∃ x : List NThreadCode, ts = (fun x : List NThreadCode => [(fun l : List NThreadCode => sl (l.map NThreadCode.t)) x]) x ∧ ok29 x := rdSliceT tysOk cxty29 rfl rfl cxty46 rd46 (by omega) true (by simp) fun _ => rfl
def ok31 (x : NCode) : Prop := ok28 x.world ∧ ok29 x.threads
theorem rd31 : Rd Tryz.prog 31 7 fun ts => ∃ x : NCode, ts = x.cs ∧ ok31 x := by
  refine (rdStructT tysOk cxty31 rfl rfl (n := 7) (.cons _ _ _ _ _ _ _ rfl rd28 (.cons _ _ _ _ _ _ _ rfl rd29 (.nil _))) ?_).imp ?_
  · intro ts c0
    obtain ⟨_, _, rfl, ⟨x0, rfl, h0⟩, c1⟩ := c0.inv
    obtain ⟨_, _, rfl, ⟨x1, rfl, h1⟩, c2⟩ := c1.inv
    have cn := c2.nilInv
    subst cn
    rfl
  · intro ts c0
    obtain ⟨_, _, rfl, ⟨x0, rfl, h0⟩, c1⟩ := c0.inv
    obtain ⟨_, _, rfl, ⟨x1, rfl, h1⟩, c2⟩ := c1.inv
    have cn := c2.nilInv
    subst cn
    exact ⟨⟨x0, x1⟩, rfl, h0, h1⟩
end Go.Proofs.YtddpfdjgppabhaaGreatDoor
