/- Worlds and codes that are valid, plainly: interleaveref06, compile. -/
import Derived.Test.YtddpfdjgppabhaaGreatDoorDData
import Derived.Test.YtddpfdjgppabhaaGreatDoorS08
set_option linter.unusedSimpArgs false
set_option linter.unusedVariables false
namespace Go.Proofs.YtddpfdjgppabhaaGreatDoor
open Go Go.TI
set_option linter.unusedVariables false
/-- Every element, with its index. -/
def allI {α : Type} (p : Nat → α → Bool) : Nat → List α → Bool
  | _, [] => true
  | k, x :: l => p k x && allI p (k + 1) l
theorem allI_drop {α : Type} (p : Nat → α → Bool) (l : List α) {k : Nat} (h : k < l.length) : allI p k (l.drop k) = (p k l[k] && allI p (k + 1) (l.drop (k + 1))) := by rw [List.drop_eq_getElem_cons h, allI]
theorem allI_and {α : Type} (p q : Nat → α → Bool) : ∀ (l : List α) (k : Nat), allI (fun k x => p k x && q k x) k l = (allI p k l && allI q k l) := by
  intro l
  induction l with
  | nil => intro k; rfl
  | cons x l ih => intro k; simp only [allI, ih]; cases p k x <;> cases q k x <;> simp
theorem allI_mem {α : Type} {p : Nat → α → Bool} : ∀ {l : List α} {k : Nat}, allI p k l = true ↔ ∀ i, (h : i < l.length) → p (k + i) l[i] = true := by
  intro l
  induction l with
  | nil => intro k; simp [allI]
  | cons x l ih =>
    intro k
    rw [allI, Bool.and_eq_true, ih]
    constructor
    · rintro ⟨h1, h2⟩ i hi
      cases i with
      | zero => exact h1
      | succ i => have := h2 i (by simpa using hi); simpa [Nat.add_assoc, Nat.add_comm 1] using this
    · intro h
      exact ⟨h 0 (by simp), fun i hi => by have := h (i + 1) (by simpa using hi); simpa [Nat.add_assoc, Nat.add_comm 1] using this⟩
/-! names -/
def letterN (c : Nat) : Bool := decide (97 ≤ c ∧ c ≤ 122) || decide (65 ≤ c ∧ c ≤ 90)
def digitN (c : Nat) : Bool := decide (48 ≤ c ∧ c ≤ 57)
def innerN (c : Nat) : Bool := letterN c || digitN c || decide (c = 95)
def keywordsN : List (List Nat) := [[118, 97, 114], [118, 111, 108, 97, 116, 105, 108, 101], [109, 117, 116, 101, 120], [114, 119, 108, 111, 99, 107], [99, 111, 110, 100], [102, 117, 116, 117, 114, 101], [116, 104, 114, 101, 97, 100], [105, 102], [101, 108, 115, 101], [119, 104, 105, 108, 101], [108, 111, 99, 107], [114, 101, 97, 100], [119, 114, 105, 116, 101], [116, 114, 97, 110, 115, 97, 99, 116, 105, 111, 110], [97, 116, 111, 109, 105, 99], [119, 97, 105, 116], [110, 111, 116, 105, 102, 121], [110, 111, 116, 105, 102, 121, 97, 108, 108], [115, 112, 97, 119, 110], [106, 111, 105, 110], [115, 101, 116], [103, 101, 116]]
def keywordN (s : List Nat) : Bool := decide (s ∈ keywordsN)
def headN (s : List Nat) : Bool := match s with | c :: _ => letterN c | [] => false
def nameN (s : List Nat) : Bool := decide (1 ≤ s.length) && decide (s.length ≤ 12) && !keywordN s && headN s && s.all innerN
def namesN (l : List (List Nat)) : Bool := l.all nameN && decide l.Nodup
/-! cells -/
def rowOk (c : NCell) (l : List NCell) : Bool := allI (fun k x => decide (x = { c with index := k, volatile := false })) 0 (l.take c.size.toNat)
def cellNames : List NCell → Option (List (List Nat))
  | [] => some []
  | c :: r => if c.size = 0 then (if c.index = 0 then (cellNames r).map (c.name :: ·) else none)
      else if h : c.size < 1 ∨ 4 < c.size ∨ (r.length + 1 : Int) < c.size then none
      else if rowOk c (c :: r) = true then (cellNames ((c :: r).drop c.size.toNat)).map (c.name :: ·) else none
  termination_by l => l.length
  decreasing_by
    · simp
    · simp; omega
/-! sites -/
def sitesOk (n : Nat) : Int → Int → List NSite → Bool
  | _, _, [] => true
  | t, x, s :: r => if s.thread < t ∨ (n : Int) ≤ s.thread then false else
      if t < s.thread then (if s.stmt = 0 then sitesOk n s.thread 1 r else false) else (if s.stmt = x then sitesOk n t (x + 1) r else false)
/-! worlds -/
def lockB (w : NWorld) (i : Int) (rw : Bool) : Bool := match atI w.locks i with | some l => l.rW == rw | none => false
def sizesOk (w : NWorld) : Bool := decide (w.cells.length ≤ 12) && decide (w.locks.length ≤ 4) && decide (w.conds.length ≤ 2) && decide (w.futures.length ≤ 2) && decide (w.sites.length ≤ 60) && decide (1 ≤ w.threads.length) && decide (w.threads.length ≤ 4)
def namesOf (w : NWorld) (v : List (List Nat)) : List (List Nat) := v ++ w.locks.map (·.name) ++ w.conds.map (·.name) ++ w.futures ++ w.threads
def worldN (w : NWorld) : Bool := match cellNames w.cells with | none => false | some v => namesN (namesOf w v)
def worldB (w : NWorld) : Bool := sizesOk w && worldN w && (w.conds.all fun c => lockB w c.mutex false) && sitesOk w.threads.length 0 0 w.sites
/-! instructions -/
def scalarB (w : NWorld) (i : Int) : Bool := match atI w.cells i with | some c => decide (c.size = 0) | none => false
def arrayB (w : NWorld) (i n : Int) : Bool := match atI w.cells i with | some c => decide (c.index = 0) && !decide (c.size = 0) && decide (c.size = n) | none => false
def regsOf (i : NInstr) : List Int :=
  if i.op = 1 ∨ i.op = 6 ∨ i.op = 10 ∨ i.op = 27 then [i.a] else if i.op = 2 ∨ i.op = 3 then [i.a, i.b] else if i.op = 4 then [i.a, i.b, i.c]
  else if i.op = 7 then [i.a, i.c] else if i.op = 8 ∨ i.op = 26 then [i.b] else if i.op = 9 then [i.b, i.c] else []
def objectsB (w : NWorld) (i : NInstr) : Bool :=
  if i.op = 6 then scalarB w i.b else if i.op = 8 then scalarB w i.a else if i.op = 7 then arrayB w i.b i.n else if i.op = 9 then arrayB w i.a i.n
  else if i.op = 11 ∨ i.op = 12 then lockB w i.a false else if i.op = 13 ∨ i.op = 14 ∨ i.op = 15 ∨ i.op = 16 then lockB w i.a true
  else if i.op = 21 ∨ i.op = 22 ∨ i.op = 23 then inI i.a w.conds.length else if i.op = 24 ∨ i.op = 25 then inI i.a w.threads.length
  else if i.op = 26 then inI i.a w.futures.length else if i.op = 27 then inI i.b w.futures.length
  else if i.op = 3 then decide (i.n = 4 ∨ i.n = 5) else if i.op = 4 then decide (6 ≤ i.n ∧ i.n ≤ 18) else true
def jumpsB (n : Nat) (i : NInstr) : Bool := if i.op = 5 then inI i.a n else if i.op = 10 then inI i.b n else true
def siteAt (w : NWorld) (t i : Int) : Bool := match atI w.sites i with | some s => decide (s.thread = t) | none => false
def siteB (w : NWorld) (t : Int) (i : NInstr) : Bool := if i.op = 28 then decide (i.site = -1) else siteAt w t i.site
def instrB (w : NWorld) (t : Int) (regs : Int) (n k : Nat) (i : NInstr) : Bool :=
  decide (1 ≤ i.op ∧ i.op ≤ 28) && (decide (i.op = 28) == decide (k + 1 = n)) && siteB w t i && ((regsOf i).all fun r => decide (0 ≤ r ∧ r < regs)) && (objectsB w i && jumpsB n i)
/-! ways through silent instructions -/
def silentB (op : Int) : Bool := decide (1 ≤ op ∧ op ≤ 5)
def goesTo (i : NInstr) (k : Int) : Int := if i.op = 5 then i.a else k + 1
def lands (l : List NInstr) : Nat → Int → Bool
  | 0, _ => false
  | m + 1, k => match atI l k with
    | none => false
    | some i => if silentB i.op = true then lands l m (goesTo i k) else true
def landsAll (l : List NInstr) : Bool := allI (fun k _ => lands l (l.length + 1) k) 0 l
def threadB (w : NWorld) (t : Int) (c : NThreadCode) : Bool :=
  decide (0 ≤ c.regs ∧ c.regs ≤ 32) && decide (c.instrs ≠ []) && allI (fun k i => instrB w t c.regs c.instrs.length k i) 0 c.instrs && landsAll c.instrs
def codeB (c : NCode) : Bool := worldB c.world && decide (c.threads.length = c.world.threads.length) && allI (fun t x => threadB c.world t x) 0 c.threads
end Go.Proofs.YtddpfdjgppabhaaGreatDoor
