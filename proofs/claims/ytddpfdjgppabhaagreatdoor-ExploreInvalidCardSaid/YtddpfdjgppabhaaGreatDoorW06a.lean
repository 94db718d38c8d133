/- Walks: the small functions of compile, eval, token, ref01, ref04, ref06. -/
import Derived.Test.YtddpfdjgppabhaaGreatDoorDFun
import Derived.Test.YtddpfdjgppabhaaGreatDoorDData
import Derived.Test.YtddpfdjgppabhaaGreatDoorTiJ7
import Derived.Test.YtddpfdjgppabhaaGreatDoorS06
set_option linter.unusedSimpArgs false
set_option linter.unusedVariables false
namespace Go.Proofs.YtddpfdjgppabhaaGreatDoor
open Go Go.TI
set_option linter.unusedVariables false
set_option linter.unusedSimpArgs false
set_option maxRecDepth 100000
attribute [-simp] List.map_take List.map_drop List.map_append
def inII (i n : Int) : Bool := decide (0 ≤ i ∧ i < n)
@[simp] theorem inII_nat (i : Int) (n : Nat) : inII i (n : Int) = inI i n := id rfl
theorem inII_iff {i n : Int} : inII i n = true ↔ 0 ≤ i ∧ i < n := by unfold inII; simp
def rIn (α : Unit) : PRule := ⟨Int × Int, fun a => [.int .i64 a.1, .int .i64 a.2], fun a => True, fun a => .bool (inII a.1 a.2), fun a b h => by simp at h; rw [h.1, h.2]⟩
theorem okWithin : (rIn ()).Ok Tryz.prog cx 177 := by
  refine walkR (tb := ⟨pt [], ht []⟩) mixed tysOk fn177 (fun a => 1) (by simp [rIn]) (by simp [rIn, Tryz.f177]) ?_
  rintro ⟨i, n⟩ _ vs ha
  simp [rIn] at ha ⊢
  obtain ⟨h0, h1⟩ := ha
  by_cases hi : 0 ≤ i <;> simp [Tryz.f177, dl177, h0, h1, hi, inII]
theorem cWithin {tb : Tabs} (ht : tb.p 177 = some (rIn ())) (i n : Int) : rl Tryz.prog cx tb 177 [.int .i64 i, .int .i64 n] = some (.bool (inII i n)) := rl_of ht okWithin (i, n) trivial
theorem okIn06 : (rIn ()).Ok Tryz.prog cx 36 := by
  refine walkR (tb := ⟨pt [], ht []⟩) mixed tysOk fn36 (fun a => 1) (by simp [rIn]) (by simp [rIn, Tryz.f36]) ?_
  rintro ⟨i, n⟩ _ vs ha
  simp [rIn] at ha ⊢
  obtain ⟨h0, h1⟩ := ha
  by_cases hi : 0 ≤ i <;> simp [Tryz.f36, dl36, h0, h1, hi, inII]
theorem cIn06 {tb : Tabs} (ht : tb.p 36 = some (rIn ())) (i n : Int) : rl Tryz.prog cx tb 36 [.int .i64 i, .int .i64 n] = some (.bool (inII i n)) := rl_of ht okIn06 (i, n) trivial
/-! silent -/
def rSilent : PRule := ⟨Int, fun a => [.int .i64 a], fun a => True, fun a => .bool (silentB a), fun a b h => by simp at h; rw [h]⟩
theorem okIsSilent : rSilent.Ok Tryz.prog cx 219 := by
  refine walkR (tb := ⟨pt [], ht []⟩) mixed tysOk fn219 (fun a => 1) (by simp [rSilent]) (by simp [rSilent, Tryz.f219]) ?_
  rintro (i : Int) _ vs ha
  simp [rSilent] at ha ⊢
  by_cases hi : 1 ≤ i <;> simp [Tryz.f219, dl219, ha, hi, silentB]
theorem cIsSilent {tb : Tabs} (ht : tb.p 219 = some rSilent) (i : Int) : rl Tryz.prog cx tb 219 [.int .i64 i] = some (.bool (silentB i)) := rl_of ht okIsSilent i trivial
theorem okSilent06 : rSilent.Ok Tryz.prog cx 68 := by
  refine walkR (tb := ⟨pt [], ht []⟩) mixed tysOk fn68 (fun a => 1) (by simp [rSilent]) (by simp [rSilent, Tryz.f68]) ?_
  rintro (i : Int) _ vs ha
  simp [rSilent] at ha ⊢
  by_cases hi : 1 ≤ i <;> simp [Tryz.f68, dl68, ha, hi, silentB]
theorem cSilent06 {tb : Tabs} (ht : tb.p 68 = some rSilent) (i : Int) : rl Tryz.prog cx tb 68 [.int .i64 i] = some (.bool (silentB i)) := rl_of ht okSilent06 i trivial
/-! eval -/
def rTruth : PRule := ⟨Bool, fun a => [.bool a], fun a => True, fun a => .int .i64 (if a = true then 1 else 0), fun a b h => by simp at h; rw [h]⟩
theorem okTruth : rTruth.Ok Tryz.prog cx 248 := by
  refine walkR (tb := ⟨pt [], ht []⟩) mixed tysOk fn248 (fun a => 1) (by simp [rTruth]) (by simp [rTruth, Tryz.f248]) ?_
  rintro (i : Bool) _ vs ha
  simp [rTruth] at ha ⊢
  cases i <;> simp [Tryz.f248, dl248, ha]
theorem cTruth {tb : Tabs} (ht : tb.p 248 = some rTruth) (b : Bool) : rl Tryz.prog cx tb 248 [.bool b] = some (.int .i64 (if b = true then 1 else 0)) := rl_of ht okTruth b trivial
def rUnary0 : PRule := ⟨Int, fun a => [.int .i64 a, .int .i64 0], fun a => True, fun a => .tuple [.int .i64 (if a = 5 then 1 else 0), .bool (decide (a = 4 ∨ a = 5))], fun a b h => by simp at h; rw [h]⟩
theorem okUnary0 : rUnary0.Ok Tryz.prog cx 215 := by
  refine walkR (tb := ⟨pt [(248, rTruth)], ht []⟩) mixed tysOk fn215 (fun a => 1) (by simp [rUnary0]) (by simp [rUnary0, Tryz.f215]) ?_
  rintro (a : Int) _ vs ha
  simp [rUnary0] at ha ⊢
  obtain ⟨h0, h1⟩ := ha
  have hneg : unop .neg (.int .i64 0) = some (.int .i64 0) := rfl
  by_cases h4 : a = 4
  · simp [Tryz.f215, dl215, h0, h1, h4, cTruth, hneg]
  · by_cases h5 : a = 5 <;> simp [Tryz.f215, dl215, h0, h1, h4, h5, cTruth]
theorem cUnary0 {tb : Tabs} (ht : tb.p 215 = some rUnary0) (a : Int) : rl Tryz.prog cx tb 215 [.int .i64 a, .int .i64 0] = some (.tuple [.int .i64 (if a = 5 then 1 else 0), .bool (decide (a = 4 ∨ a = 5))]) := rl_of ht okUnary0 a trivial
def rBinary0 : PRule := ⟨Int, fun a => [.int .i64 a, .int .i64 0, .int .i64 0], fun a => True, fun a => .tuple [.int .i64 (if a = 11 ∨ a = 14 ∨ a = 16 then 1 else 0), .bool (decide (6 ≤ a ∧ a ≤ 18))], fun a b h => by simp at h; rw [h]⟩
theorem okBinary0 : rBinary0.Ok Tryz.prog cx 216 := by
  refine walkR (tb := ⟨pt [(248, rTruth)], ht []⟩) mixed tysOk fn216 (fun a => 1) (by simp [rBinary0]) (by simp [rBinary0, Tryz.f216]) ?_
  rintro (a : Int) _ vs ha
  simp [rBinary0] at ha ⊢
  obtain ⟨h0, h1, h2⟩ := ha
  have z1 : binop .add (.int .i64 0) (.int .i64 0) = some (.int .i64 0) := rfl
  have z2 : binop .sub (.int .i64 0) (.int .i64 0) = some (.int .i64 0) := rfl
  have z3 : binop .mul (.int .i64 0) (.int .i64 0) = some (.int .i64 0) := rfl
  by_cases hk : 6 ≤ a ∧ a ≤ 18
  · have hc : a = 6 ∨ a = 7 ∨ a = 8 ∨ a = 9 ∨ a = 10 ∨ a = 11 ∨ a = 12 ∨ a = 13 ∨ a = 14 ∨ a = 15 ∨ a = 16 ∨ a = 17 ∨ a = 18 := by omega
    rcases hc with rfl | rfl | rfl | rfl | rfl | rfl | rfl | rfl | rfl | rfl | rfl | rfl | rfl
    all_goals simp [Tryz.f216, dl216, h0, h1, h2, cTruth, z1, z2, z3]
  · have hn : ∀ i : Int, 6 ≤ i → i ≤ 18 → ¬ a = i := fun i h1 h2 h3 => hk (by omega)
    have hk' : 6 ≤ a → 18 < a := by omega
    simp [Tryz.f216, dl216, h0, h1, h2, hk', hn 6, hn 7, hn 8, hn 9, hn 10, hn 11, hn 12, hn 13, hn 14, hn 15, hn 16, hn 17, hn 18]
    exact hk'
theorem cBinary0 {tb : Tabs} (ht : tb.p 216 = some rBinary0) (a : Int) : rl Tryz.prog cx tb 216 [.int .i64 a, .int .i64 0, .int .i64 0] = some (.tuple [.int .i64 (if a = 11 ∨ a = 14 ∨ a = 16 then 1 else 0), .bool (decide (6 ≤ a ∧ a ≤ 18))]) := rl_of ht okBinary0 a trivial
/-! letters -/
def rLetter : PRule := ⟨Nat, fun a => [.int .u8 a], fun a => True, fun a => .bool (letterN a), fun a b h => by simp at h; rw [show a = b by omega]⟩
def rDigit : PRule := ⟨Nat, fun a => [.int .u8 a], fun a => True, fun a => .bool (digitN a), fun a b h => by simp at h; rw [show a = b by omega]⟩
def rInner : PRule := ⟨Nat, fun a => [.int .u8 a], fun a => True, fun a => .bool (innerN a), fun a b h => by simp at h; rw [show a = b by omega]⟩
theorem okLetter : rLetter.Ok Tryz.prog cx 64 := by
  refine walkR (tb := ⟨pt [], ht []⟩) mixed tysOk fn64 (fun a => 1) (by simp [rLetter]) (by simp [rLetter, Tryz.f64]) ?_
  rintro (i : Nat) _ vs ha
  simp [rLetter] at ha ⊢
  by_cases h1 : 97 ≤ i <;> by_cases h2 : i ≤ 122 <;> by_cases h3 : 65 ≤ i <;> by_cases h4 : i ≤ 90 <;> simp [Tryz.f64, dl64, ha, letterN, h1, h2, h3, h4, show (97 : Int) ≤ (i : Int) ↔ 97 ≤ i by omega, show (i : Int) ≤ 122 ↔ i ≤ 122 by omega, show (65 : Int) ≤ (i : Int) ↔ 65 ≤ i by omega, show (i : Int) ≤ 90 ↔ i ≤ 90 by omega]
theorem cLetter {tb : Tabs} (ht : tb.p 64 = some rLetter) (i : Nat) : rl Tryz.prog cx tb 64 [.int .u8 i] = some (.bool (letterN i)) := rl_of ht okLetter i trivial
theorem okDigit : rDigit.Ok Tryz.prog cx 107 := by
  refine walkR (tb := ⟨pt [], ht []⟩) mixed tysOk fn107 (fun a => 1) (by simp [rDigit]) (by simp [rDigit, Tryz.f107]) ?_
  rintro (i : Nat) _ vs ha
  simp [rDigit] at ha ⊢
  by_cases h1 : 48 ≤ i <;> by_cases h2 : i ≤ 57 <;> simp [Tryz.f107, dl107, ha, digitN, h1, h2, show (48 : Int) ≤ (i : Int) ↔ 48 ≤ i by omega, show (i : Int) ≤ 57 ↔ i ≤ 57 by omega]
theorem cDigit {tb : Tabs} (ht : tb.p 107 = some rDigit) (i : Nat) : rl Tryz.prog cx tb 107 [.int .u8 i] = some (.bool (digitN i)) := rl_of ht okDigit i trivial
theorem okInner : rInner.Ok Tryz.prog cx 66 := by
  refine walkR (tb := ⟨pt [(64, rLetter), (107, rDigit)], ht []⟩) mixed tysOk fn66 (fun a => 1) (by simp [rInner]) (by simp [rInner, Tryz.f66]) ?_
  rintro (i : Nat) _ vs ha
  simp [rInner] at ha ⊢
  cases h1 : letterN i <;> cases h2 : digitN i <;> simp [Tryz.f66, dl66, ha, innerN, cLetter, cDigit, h1, h2, show (i : Int) = 95 ↔ i = 95 by omega]
theorem cInner {tb : Tabs} (ht : tb.p 66 = some rInner) (i : Nat) : rl Tryz.prog cx tb 66 [.int .u8 i] = some (.bool (innerN i)) := rl_of ht okInner i trivial
/-! objects of a world -/
def rIsScalar : PRule := ⟨NWorld × Int, fun a => [a.1.t, .int .i64 a.2], fun a => True, fun a => .bool (scalarB a.1 a.2), fun a b h => by simp at h; rw [NWorld.inj h.1, h.2]⟩
theorem okIsScalar : rIsScalar.Ok Tryz.prog cx 217 := by
  refine walkR (tb := ⟨pt [(177, rIn ())], ht []⟩) mixed tysOk fn217 (fun a => 1) (by simp [rIsScalar]) (by simp [rIsScalar, Tryz.f217]) ?_
  rintro ⟨w, i⟩ _ vs ha
  simp [rIsScalar] at ha ⊢
  obtain ⟨h0, h1⟩ := ha
  cases hl : inI i w.cells.length with
  | true =>
    obtain ⟨x, hx, hy⟩ := atI_in hl
    simp [Tryz.f217, dl217, h0, h1, cWithin, hl, hx, hy, scalarB, toIdxI_of (inI_iff.1 hl).1]
  | false => simp [Tryz.f217, dl217, h0, h1, cWithin, hl, atI_out hl, scalarB]
theorem cIsScalar {tb : Tabs} (ht : tb.p 217 = some rIsScalar) (w : NWorld) (i : Int) : rl Tryz.prog cx tb 217 [w.t, .int .i64 i] = some (.bool (scalarB w i)) := rl_of ht okIsScalar (w, i) trivial
def rIsArray : PRule := ⟨NWorld × Int × Int, fun a => [a.1.t, .int .i64 a.2.1, .int .i64 a.2.2], fun a => True, fun a => .bool (arrayB a.1 a.2.1 a.2.2), fun a b h => by simp at h; rw [NWorld.inj h.1, h.2.1, h.2.2]⟩
theorem okIsArray : rIsArray.Ok Tryz.prog cx 218 := by
  refine walkR (tb := ⟨pt [(177, rIn ())], ht []⟩) mixed tysOk fn218 (fun a => 1) (by simp [rIsArray]) (by simp [rIsArray, Tryz.f218]) ?_
  rintro ⟨w, i, n⟩ _ vs ha
  simp [rIsArray] at ha ⊢
  obtain ⟨h0, h1, h2⟩ := ha
  cases hl : inI i w.cells.length with
  | true =>
    obtain ⟨x, hx, hy⟩ := atI_in hl
    by_cases q1 : x.index = 0 <;> by_cases q2 : x.size = 0 <;> simp [Tryz.f218, dl218, h0, h1, h2, cWithin, hl, hx, hy, arrayB, toIdxI_of (inI_iff.1 hl).1, q1, q2]
  | false => simp [Tryz.f218, dl218, h0, h1, h2, cWithin, hl, atI_out hl, arrayB]
theorem cIsArray {tb : Tabs} (ht : tb.p 218 = some rIsArray) (w : NWorld) (i n : Int) : rl Tryz.prog cx tb 218 [w.t, .int .i64 i, .int .i64 n] = some (.bool (arrayB w i n)) := rl_of ht okIsArray (w, i, n) trivial
theorem okArray06 : rIsArray.Ok Tryz.prog cx 67 := by
  refine walkR (tb := ⟨pt [(36, rIn ())], ht []⟩) mixed tysOk fn67 (fun a => 1) (by simp [rIsArray]) (by simp [rIsArray, Tryz.f67]) ?_
  rintro ⟨w, i, n⟩ _ vs ha
  simp [rIsArray] at ha ⊢
  obtain ⟨h0, h1, h2⟩ := ha
  cases hl : inI i w.cells.length with
  | true =>
    obtain ⟨x, hx, hy⟩ := atI_in hl
    by_cases q1 : x.index = 0 <;> by_cases q2 : x.size = 0 <;> simp [Tryz.f67, dl67, h0, h1, h2, cIn06, hl, hx, hy, arrayB, toIdxI_of (inI_iff.1 hl).1, q1, q2]
  | false => simp [Tryz.f67, dl67, h0, h1, h2, cIn06, hl, atI_out hl, arrayB]
theorem cArray06 {tb : Tabs} (ht : tb.p 67 = some rIsArray) (w : NWorld) (i n : Int) : rl Tryz.prog cx tb 67 [w.t, .int .i64 i, .int .i64 n] = some (.bool (arrayB w i n)) := rl_of ht okArray06 (w, i, n) trivial
def rIsLock : PRule := ⟨NWorld × Int × Bool, fun a => [a.1.t, .int .i64 a.2.1, .bool a.2.2], fun a => True, fun a => .bool (lockB a.1 a.2.1 a.2.2), fun a b h => by simp at h; rw [NWorld.inj h.1, h.2.1, h.2.2]⟩
theorem okIsLock : rIsLock.Ok Tryz.prog cx 175 := by
  refine walkR (tb := ⟨pt [(177, rIn ())], ht []⟩) mixed tysOk fn175 (fun a => 1) (by simp [rIsLock]) (by simp [rIsLock, Tryz.f175]) ?_
  rintro ⟨w, i, n⟩ _ vs ha
  simp [rIsLock] at ha ⊢
  obtain ⟨h0, h1, h2⟩ := ha
  cases hl : inI i w.locks.length with
  | true =>
    obtain ⟨x, hx, hy⟩ := atI_in hl
    simp [Tryz.f175, dl175, h0, h1, h2, cWithin, hl, hx, hy, lockB, toIdxI_of (inI_iff.1 hl).1]
  | false => simp [Tryz.f175, dl175, h0, h1, h2, cWithin, hl, atI_out hl, lockB]
theorem cIsLock {tb : Tabs} (ht : tb.p 175 = some rIsLock) (w : NWorld) (i : Int) (b : Bool) : rl Tryz.prog cx tb 175 [w.t, .int .i64 i, .bool b] = some (.bool (lockB w i b)) := rl_of ht okIsLock (w, i, b) trivial
end Go.Proofs.YtddpfdjgppabhaaGreatDoor
