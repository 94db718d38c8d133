/- The objects' rules, plainly: interleaveref08. -/
import Derived.Test.YtddpfdjgppabhaaGreatDoorDData
set_option linter.unusedSimpArgs false
set_option linter.unusedVariables false
namespace Go.Proofs.YtddpfdjgppabhaaGreatDoor
open Go Go.TI
set_option linter.unusedVariables false
def inI (i : Int) (n : Nat) : Bool := decide (0 ≤ i ∧ i < n)
def atI {α : Type} (l : List α) (i : Int) : Option α := if 0 ≤ i then l[i.toNat]? else none
theorem inI_iff {i : Int} {n : Nat} : inI i n = true ↔ 0 ≤ i ∧ i.toNat < n := by unfold inI; simp; omega
theorem inI_false {i : Int} {n : Nat} (h : inI i n = false) : ¬ (0 ≤ i ∧ i.toNat < n) := fun k => by rw [inI_iff.2 k] at h; simp at h
theorem atI_in {α : Type} {l : List α} {i : Int} (h : inI i l.length = true) : ∃ x, l[i.toNat]? = some x ∧ atI l i = some x := by
  obtain ⟨h1, h2⟩ := inI_iff.1 h
  exact ⟨l[i.toNat], by simp [h2], by simp [atI, h1, h2]⟩
theorem atI_out {α : Type} {l : List α} {i : Int} (h : inI i l.length = false) : atI l i = none := by
  have := inI_false h
  unfold atI
  split
  · simp; omega
  · rfl
def fitsB (w : NWorld) (s : NSync) : Bool := (w.conds.all fun c => inI c.mutex w.locks.length) && decide (s.locks.length = w.locks.length) && decide (s.done.length = w.futures.length) && decide (s.threads.length = w.threads.length)
def namedB (w : NWorld) (k o : Int) : Bool :=
  if k = 1 ∨ k = 2 ∨ k = 5 ∨ k = 12 ∨ k = 13 ∨ k = 14 ∨ k = 15 then decide (o = -1)
  else if k = 3 ∨ k = 4 then inI o w.cells.length
  else if k = 6 ∨ k = 7 then (match atI w.locks o with | some l => !l.rW | none => false)
  else if k = 8 ∨ k = 9 ∨ k = 10 ∨ k = 11 then (match atI w.locks o with | some l => l.rW | none => false)
  else if k = 16 ∨ k = 17 ∨ k = 18 ∨ k = 19 then inI o w.conds.length
  else if k = 20 ∨ k = 21 then inI o w.threads.length
  else if k = 22 ∨ k = 23 then inI o w.futures.length
  else false
/-- The threads that wait for a condition, from thread i on. -/
def waitL (c : Int) : List NThreadSync → Nat → List Int
  | [], _ => []
  | t :: l, i => if t.status = 3 ∧ t.cond = c then (i : Int) :: waitL c l (i + 1) else waitL c l (i + 1)
def lockOf (s : NSync) (i : Int) : NLockState := (atI s.locks i).getD default
def thrOf (s : NSync) (i : Int) : NThreadSync := (atI s.threads i).getD default
def condLock (w : NWorld) (s : NSync) (o : Int) : NLockState := lockOf s ((atI w.conds o).getD default).mutex
def doneOf (s : NSync) (o : Int) : Bool := (atI s.done o).getD false
def enB (w : NWorld) (s : NSync) (t k o : Int) : Bool :=
  if k = 1 then decide ((thrOf s t).status = 1)
  else if k = 17 then decide ((thrOf s t).status = 4) && decide ((thrOf s t).cond = o) && decide ((condLock w s o).owner = -1)
  else if ¬ (thrOf s t).status = 2 then false
  else if k = 6 then decide ((lockOf s o).owner = -1)
  else if k = 10 then decide ((lockOf s o).owner = -1) && decide ((lockOf s o).readers = [])
  else if k = 8 then decide ((lockOf s o).owner = -1) && !decide (t ∈ (lockOf s o).readers)
  else if k = 7 ∨ k = 11 then decide ((lockOf s o).owner = t)
  else if k = 9 then decide (t ∈ (lockOf s o).readers)
  else if k = 12 then decide (s.tx = -1)
  else if k = 13 then decide (s.tx = t)
  else if k = 14 then !(thrOf s t).atomic
  else if k = 15 then (thrOf s t).atomic
  else if k = 16 ∨ k = 18 ∨ k = 19 then decide ((condLock w s o).owner = t)
  else if k = 20 then !decide (o = t) && decide ((thrOf s o).status = 0)
  else if k = 21 then !decide (o = t) && decide ((thrOf s o).status = 5)
  else if k = 22 then !doneOf s o
  else if k = 23 then doneOf s o
  else true
def enabledB (w : NWorld) (s : NSync) (t k o : Int) : Bool := fitsB w s && inI t w.threads.length && namedB w k o && enB w s t k o
theorem fitsB_len {w : NWorld} {s : NSync} (h : fitsB w s = true) : s.locks.length = w.locks.length ∧ s.done.length = w.futures.length ∧ s.threads.length = w.threads.length := by
  unfold fitsB at h; simp at h; exact ⟨h.1.1.2, h.1.2, h.2⟩
theorem fitsB_cond {w : NWorld} {s : NSync} (h : fitsB w s = true) {i : Nat} {c : NCond} (hc : w.conds[i]? = some c) : inI c.mutex w.locks.length = true := by
  unfold fitsB at h; simp at h; exact h.1.1.1 c (List.mem_of_getElem? hc)
theorem named_rng {w : NWorld} {k o : Int} (h : namedB w k o = true) : k = 1 ∨ k = 2 ∨ k = 3 ∨ k = 4 ∨ k = 5 ∨ k = 12 ∨ k = 13 ∨ k = 14 ∨ k = 15 ∨ (k = 6 ∨ k = 7 ∨ k = 8 ∨ k = 9 ∨ k = 10 ∨ k = 11) ∨ (k = 16 ∨ k = 17 ∨ k = 18 ∨ k = 19) ∨ (k = 20 ∨ k = 21) ∨ (k = 22 ∨ k = 23) := by
  by_cases hk : 1 ≤ k ∧ k ≤ 23
  · omega
  · exfalso
    unfold namedB at h
    rw [if_neg (by omega), if_neg (by omega), if_neg (by omega), if_neg (by omega), if_neg (by omega), if_neg (by omega), if_neg (by omega)] at h
    simp at h
theorem named_lock {w : NWorld} {k o : Int} (h : namedB w k o = true) (hk : k = 6 ∨ k = 7 ∨ k = 8 ∨ k = 9 ∨ k = 10 ∨ k = 11) : inI o w.locks.length = true := by
  cases hl : inI o w.locks.length with
  | true => rfl
  | false =>
    unfold namedB at h
    rw [if_neg (by omega), if_neg (by omega)] at h
    rcases hk with rfl | rfl | rfl | rfl | rfl | rfl <;> simp [atI_out hl] at h
theorem named_cond {w : NWorld} {k o : Int} (h : namedB w k o = true) (hk : k = 16 ∨ k = 17 ∨ k = 18 ∨ k = 19) : inI o w.conds.length = true := by
  unfold namedB at h
  rwa [if_neg (by omega), if_neg (by omega), if_neg (by omega), if_neg (by omega), if_pos hk] at h
theorem named_thr {w : NWorld} {k o : Int} (h : namedB w k o = true) (hk : k = 20 ∨ k = 21) : inI o w.threads.length = true := by
  unfold namedB at h
  rwa [if_neg (by omega), if_neg (by omega), if_neg (by omega), if_neg (by omega), if_neg (by omega), if_pos hk] at h
theorem named_fut {w : NWorld} {k o : Int} (h : namedB w k o = true) (hk : k = 22 ∨ k = 23) : inI o w.futures.length = true := by
  unfold namedB at h
  rwa [if_neg (by omega), if_neg (by omega), if_neg (by omega), if_neg (by omega), if_neg (by omega), if_neg (by omega), if_pos hk] at h
def NSync.sm (s : NSync) : Prop := s.locks.length ≤ 1099511627776 ∧ s.done.length ≤ 1099511627776 ∧ s.threads.length ≤ 1099511627776 ∧ ∀ l ∈ s.locks, l.readers.length ≤ 1000000000000
/-- No list of a world is over long. -/
def NWorld.sm (w : NWorld) : Prop := w.cells.length ≤ 1099511627776 ∧ w.locks.length ≤ 1099511627776 ∧ w.conds.length ≤ 1099511627776 ∧ w.futures.length ≤ 1099511627776 ∧ w.threads.length ≤ 1099511627776 ∧ w.sites.length ≤ 1099511627776
end Go.Proofs.YtddpfdjgppabhaaGreatDoor
