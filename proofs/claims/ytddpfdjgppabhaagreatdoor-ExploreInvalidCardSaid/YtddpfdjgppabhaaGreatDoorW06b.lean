/- Walks: registers, operands, names, sites, ways. -/
import Derived.Test.YtddpfdjgppabhaaGreatDoorW06a
set_option linter.unusedSimpArgs false
set_option linter.unusedVariables false
namespace Go.Proofs.YtddpfdjgppabhaaGreatDoor
open Go Go.TI
set_option linter.unusedVariables false
set_option linter.unusedSimpArgs false
set_option maxRecDepth 100000
attribute [-simp] List.map_take List.map_drop List.map_append
/-! registers -/
def rRegisters : PRule := ⟨NInstr, fun a => [a.t], fun a => True, fun a => sl ((regsOf a).map (T.int .i64)), fun a b h => by simp at h; rw [NInstr.inj h]⟩
theorem okRegisters : rRegisters.Ok Tryz.prog cx 178 := by
  refine walkR (tb := ⟨pt [], ht []⟩) mixed tysOk fn178 (fun a => 1) (by simp [rRegisters]) (by simp [rRegisters, Tryz.f178]) ?_
  rintro ⟨op, a, b, c, n, site⟩ _ vs ha
  simp [rRegisters] at ha ⊢
  rcases (by omega : op = 1 ∨ op = 6 ∨ op = 10 ∨ op = 27 ∨ op = 2 ∨ op = 3 ∨ op = 4 ∨ op = 7 ∨ op = 8 ∨ op = 26 ∨ op = 9 ∨ (¬ op = 1 ∧ ¬ op = 6 ∧ ¬ op = 10 ∧ ¬ op = 27 ∧ ¬ op = 2 ∧ ¬ op = 3 ∧ ¬ op = 4 ∧ ¬ op = 7 ∧ ¬ op = 8 ∧ ¬ op = 26 ∧ ¬ op = 9)) with rfl | rfl | rfl | rfl | rfl | rfl | rfl | rfl | rfl | rfl | rfl | ⟨n1, n2, n3, n4, n5, n6, n7, n8, n9, n10, n11⟩
  rotate_right
  · simp [Tryz.f178, dl178, ha, regsOf, n1, n2, n3, n4, n5, n6, n7, n8, n9, n10, n11]
  all_goals simp [Tryz.f178, dl178, ha, regsOf, items_arr, sl]
theorem cRegisters {tb : Tabs} (ht : tb.p 178 = some rRegisters) (i : NInstr) : rl Tryz.prog cx tb 178 [i.t] = some (sl ((regsOf i).map (T.int .i64))) := rl_of ht okRegisters i trivial
theorem okRegisters06 : rRegisters.Ok Tryz.prog cx 37 := by
  refine walkR (tb := ⟨pt [], ht []⟩) mixed tysOk fn37 (fun a => 1) (by simp [rRegisters]) (by simp [rRegisters, Tryz.f37]) ?_
  rintro ⟨op, a, b, c, n, site⟩ _ vs ha
  simp [rRegisters] at ha ⊢
  rcases (by omega : op = 1 ∨ op = 6 ∨ op = 10 ∨ op = 27 ∨ op = 2 ∨ op = 3 ∨ op = 4 ∨ op = 7 ∨ op = 8 ∨ op = 26 ∨ op = 9 ∨ (¬ op = 1 ∧ ¬ op = 6 ∧ ¬ op = 10 ∧ ¬ op = 27 ∧ ¬ op = 2 ∧ ¬ op = 3 ∧ ¬ op = 4 ∧ ¬ op = 7 ∧ ¬ op = 8 ∧ ¬ op = 26 ∧ ¬ op = 9)) with rfl | rfl | rfl | rfl | rfl | rfl | rfl | rfl | rfl | rfl | rfl | ⟨n1, n2, n3, n4, n5, n6, n7, n8, n9, n10, n11⟩
  rotate_right
  · simp [Tryz.f37, dl37, ha, regsOf, n1, n2, n3, n4, n5, n6, n7, n8, n9, n10, n11]
  all_goals simp [Tryz.f37, dl37, ha, regsOf, items_arr, sl]
theorem cRegisters06 {tb : Tabs} (ht : tb.p 37 = some rRegisters) (i : NInstr) : rl Tryz.prog cx tb 37 [i.t] = some (sl ((regsOf i).map (T.int .i64))) := rl_of ht okRegisters06 i trivial
/-! operands -/
def rOperands : PRule := ⟨NWorld × Nat × NInstr, fun a => [a.1.t, .int .i64 a.2.1, a.2.2.t], fun a => True, fun a => .bool (objectsB a.1 a.2.2 && jumpsB a.2.1 a.2.2), fun a b h => by simp at h; rw [NWorld.inj h.1, NInstr.inj h.2.2, show a.2.1 = b.2.1 by omega]⟩
theorem okOperands : rOperands.Ok Tryz.prog cx 179 := by
  refine walkR (tb := ⟨pt [(215, rUnary0), (216, rBinary0), (177, rIn ()), (217, rIsScalar), (218, rIsArray), (175, rIsLock)], ht []⟩) mixed tysOk fn179 (fun a => 1) (by simp [rOperands]) (by simp [rOperands, Tryz.f179]) ?_
  rintro ⟨w, m, ⟨op, a, b, c, n, site⟩⟩ _ vs ha
  simp [rOperands] at ha ⊢
  obtain ⟨h0, h1, h2⟩ := ha
  rcases (by omega : op = 3 ∨ op = 4 ∨ op = 5 ∨ op = 10 ∨ op = 6 ∨ op = 8 ∨ op = 7 ∨ op = 9 ∨ op = 11 ∨ op = 12 ∨ op = 13 ∨ op = 14 ∨ op = 15 ∨ op = 16 ∨ op = 21 ∨ op = 22 ∨ op = 23 ∨ op = 24 ∨ op = 25 ∨ op = 26 ∨ op = 27 ∨ (¬ op = 3 ∧ ¬ op = 4 ∧ ¬ op = 5 ∧ ¬ op = 10 ∧ ¬ op = 6 ∧ ¬ op = 8 ∧ ¬ op = 7 ∧ ¬ op = 9 ∧ ¬ op = 11 ∧ ¬ op = 12 ∧ ¬ op = 13 ∧ ¬ op = 14 ∧ ¬ op = 15 ∧ ¬ op = 16 ∧ ¬ op = 21 ∧ ¬ op = 22 ∧ ¬ op = 23 ∧ ¬ op = 24 ∧ ¬ op = 25 ∧ ¬ op = 26 ∧ ¬ op = 27)) with rfl | rfl | rfl | rfl | rfl | rfl | rfl | rfl | rfl | rfl | rfl | rfl | rfl | rfl | rfl | rfl | rfl | rfl | rfl | rfl | rfl | ⟨n1, n2, n3, n4, n5, n6, n7, n8, n9, n10, n11, n12, n13, n14, n15, n16, n17, n18, n19, n20, n21⟩
  rotate_right
  · simp [Tryz.f179, dl179, h0, h1, h2, objectsB, jumpsB, n1, n2, n3, n4, n5, n6, n7, n8, n9, n10, n11, n12, n13, n14, n15, n16, n17, n18, n19, n20, n21]
  all_goals simp [Tryz.f179, dl179, h0, h1, h2, objectsB, jumpsB, cUnary0, cBinary0, cWithin, cIsScalar, cIsArray, cIsLock]
theorem cOperands {tb : Tabs} (ht : tb.p 179 = some rOperands) (w : NWorld) (n : Nat) (i : NInstr) : rl Tryz.prog cx tb 179 [w.t, .int .i64 n, i.t] = some (.bool (objectsB w i && jumpsB n i)) := rl_of ht okOperands (w, n, i) trivial
def rObjects : PRule := ⟨NWorld × NInstr, fun a => [a.1.t, a.2.t], fun a => True, fun a => .bool (objectsB a.1 a.2), fun a b h => by simp at h; rw [NWorld.inj h.1, NInstr.inj h.2]⟩
theorem okObjects : rObjects.Ok Tryz.prog cx 34 := by
  refine walkR (tb := ⟨pt [(36, rIn ()), (67, rIsArray)], ht []⟩) mixed tysOk fn34 (fun a => 1) (by simp [rObjects]) (by simp [rObjects, Tryz.f34]) ?_
  rintro ⟨w, ⟨op, a, b, c, n, site⟩⟩ _ vs ha
  simp [rObjects] at ha ⊢
  obtain ⟨h0, h1⟩ := ha
  rcases (by omega : op = 3 ∨ op = 4 ∨ op = 7 ∨ op = 9 ∨ op = 21 ∨ op = 22 ∨ op = 23 ∨ op = 24 ∨ op = 25 ∨ op = 26 ∨ op = 27 ∨ op = 6 ∨ op = 8 ∨ op = 11 ∨ op = 12 ∨ op = 13 ∨ op = 14 ∨ op = 15 ∨ op = 16 ∨ (¬ op = 3 ∧ ¬ op = 4 ∧ ¬ op = 6 ∧ ¬ op = 8 ∧ ¬ op = 7 ∧ ¬ op = 9 ∧ ¬ op = 11 ∧ ¬ op = 12 ∧ ¬ op = 13 ∧ ¬ op = 14 ∧ ¬ op = 15 ∧ ¬ op = 16 ∧ ¬ op = 21 ∧ ¬ op = 22 ∧ ¬ op = 23 ∧ ¬ op = 24 ∧ ¬ op = 25 ∧ ¬ op = 26 ∧ ¬ op = 27)) with rfl | rfl | rfl | rfl | rfl | rfl | rfl | rfl | rfl | rfl | rfl | rfl | rfl | rfl | rfl | rfl | rfl | rfl | rfl | ⟨n1, n2, n5, n6, n7, n8, n9, n10, n11, n12, n13, n14, n15, n16, n17, n18, n19, n20, n21⟩
  rotate_right
  · simp [Tryz.f34, dl34, h0, h1, objectsB, n1, n2, n5, n6, n7, n8, n9, n10, n11, n12, n13, n14, n15, n16, n17, n18, n19, n20, n21]
  · by_cases q : n = 4 <;> simp [Tryz.f34, dl34, h0, h1, objectsB, q]
  · by_cases q : 6 ≤ n <;> simp [Tryz.f34, dl34, h0, h1, objectsB, q]
  iterate 9 · simp [Tryz.f34, dl34, h0, h1, objectsB, cIn06, cArray06]
  · cases hl : inI b w.cells.length with
    | true =>
      obtain ⟨x, hx, hy⟩ := atI_in hl
      simp [Tryz.f34, dl34, h0, h1, objectsB, cIn06, hl, hx, hy, scalarB, toIdxI_of (inI_iff.1 hl).1]
    | false => simp [Tryz.f34, dl34, h0, h1, objectsB, cIn06, hl, atI_out hl, scalarB]
  · cases hl : inI a w.cells.length with
    | true =>
      obtain ⟨x, hx, hy⟩ := atI_in hl
      simp [Tryz.f34, dl34, h0, h1, objectsB, cIn06, hl, hx, hy, scalarB, toIdxI_of (inI_iff.1 hl).1]
    | false => simp [Tryz.f34, dl34, h0, h1, objectsB, cIn06, hl, atI_out hl, scalarB]
  all_goals
    cases hl : inI a w.locks.length with
    | true =>
      obtain ⟨x, hx, hy⟩ := atI_in hl
      simp [Tryz.f34, dl34, h0, h1, objectsB, cIn06, hl, hx, hy, lockB, toIdxI_of (inI_iff.1 hl).1]
    | false => simp [Tryz.f34, dl34, h0, h1, objectsB, cIn06, hl, atI_out hl, lockB]
theorem cObjects {tb : Tabs} (ht : tb.p 34 = some rObjects) (w : NWorld) (i : NInstr) : rl Tryz.prog cx tb 34 [w.t, i.t] = some (.bool (objectsB w i)) := rl_of ht okObjects (w, i) trivial
end Go.Proofs.YtddpfdjgppabhaaGreatDoor
