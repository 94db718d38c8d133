/- Ways through silent instructions: marked as they are gone. -/
import Derived.Test.YtddpfdjgppabhaaGreatDoorS06
set_option linter.unusedSimpArgs false
set_option linter.unusedVariables false
namespace Go.Proofs.YtddpfdjgppabhaaGreatDoor
open Go Go.TI
set_option linter.unusedVariables false
/-- Where a way goes on from instruction p. -/
def stepN (l : List NInstr) (p : Nat) : Nat := match l[p]? with | some i => (goesTo i p).toNat | none => p
/-- The way from s, m steps on. -/
def itN (l : List NInstr) (s : Nat) : Nat → Nat
  | 0 => s
  | m + 1 => stepN l (itN l s m)
/-- The marks, with the first m instructions of the way from s. -/
def mkN (l : List NInstr) (s : Nat) (G : List Bool) : Nat → List Bool
  | 0 => G
  | m + 1 => (mkN l s G m).set (itN l s m) true
def silentAt (l : List NInstr) (p : Nat) : Bool := match l[p]? with | some i => silentB i.op | none => false
/-- Jumps lead to instructions, the last instruction is not silent. -/
structure WayOk (l : List NInstr) : Prop where
  jump : ∀ (k : Nat) (i : NInstr), l[k]? = some i → i.op = 5 → inI i.a l.length = true
  last : ∀ i : NInstr, l[l.length - 1]? = some i → silentB i.op = false
theorem atI_nat {α : Type} (l : List α) (p : Nat) : atI l (p : Int) = l[p]? := by unfold atI; rw [if_pos (by omega), Int.toNat_natCast]
theorem goes_step {l : List NInstr} (ok : WayOk l) {p : Nat} {i : NInstr} (hi : l[p]? = some i) (hs : silentB i.op = true) : goesTo i p = (stepN l p : Int) ∧ stepN l p < l.length := by
  have hp : p < l.length := by
    rcases Nat.lt_or_ge p l.length with h | h
    · exact h
    · rw [List.getElem?_eq_none h] at hi; simp at hi
  unfold stepN
  rw [hi]
  simp only
  unfold goesTo
  by_cases h5 : i.op = 5
  · have := inI_iff.1 (ok.jump p i hi h5)
    rw [if_pos h5]; omega
  · rw [if_neg h5]
    have hne : p ≠ l.length - 1 := by
      intro h
      have := ok.last i (h ▸ hi)
      rw [this] at hs; simp at hs
    omega
theorem lands_step {l : List NInstr} (ok : WayOk l) {p : Nat} (hs : silentAt l p = true) (m : Nat) : lands l (m + 1) p = lands l m (stepN l p) := by
  unfold silentAt at hs
  rw [lands, atI_nat]
  cases hi : l[p]? with
  | none => rw [hi] at hs; simp at hs
  | some i =>
    rw [hi] at hs
    simp only at hs ⊢
    rw [if_pos hs, (goes_step ok hi hs).1]
theorem lands_stop {l : List NInstr} {p : Nat} (hp : p < l.length) (hs : silentAt l p = false) (m : Nat) : lands l (m + 1) p = true := by
  unfold silentAt at hs
  rw [lands, atI_nat, List.getElem?_eq_getElem hp]
  rw [List.getElem?_eq_getElem hp] at hs
  simp only at hs ⊢
  rw [if_neg (by rw [hs]; simp)]
theorem lands_mono {l : List NInstr} : ∀ (m : Nat) (k : Int), lands l m k = true → lands l (m + 1) k = true := by
  intro m
  induction m with
  | zero => intro k h; simp [lands] at h
  | succ m ih =>
    intro k h
    rw [lands] at h ⊢
    cases hi : atI l k with
    | none => rw [hi] at h; simp at h
    | some i =>
      rw [hi] at h
      simp only at h ⊢
      split
      · rename_i hs; rw [if_pos hs] at h; exact ih _ h
      · rfl
theorem lands_le {l : List NInstr} {m n : Nat} (h : m ≤ n) {k : Int} (hk : lands l m k = true) : lands l n k = true := by
  induction n with
  | zero => have : m = 0 := by omega
            subst this; exact hk
  | succ n ih =>
    rcases Nat.lt_or_ge m (n + 1) with h1 | h1
    · exact lands_mono _ _ (ih (by omega))
    · have : m = n + 1 := by omega
      subst this; exact hk
/-- A way that comes back to itself never lands. -/
theorem lands_ring {l : List NInstr} (ok : WayOk l) {s m j : Nat} (hs : ∀ i, i < m → silentAt l (itN l s i) = true) (hj : j < m) (hr : itN l s m = itN l s j) : ∀ (f i : Nat), i < m → lands l f (itN l s i) = false := by
  intro f
  induction f with
  | zero => intro i _; rfl
  | succ f ih =>
    intro i hi
    rw [lands_step ok (hs i hi)]
    show lands l f (itN l s (i + 1)) = false
    rcases Nat.lt_or_ge (i + 1) m with h | h
    · exact ih _ h
    · have : i + 1 = m := by omega
      rw [this, hr]; exact ih _ hj
theorem mk_len (l : List NInstr) (s : Nat) (G : List Bool) : ∀ m, (mkN l s G m).length = G.length := by
  intro m
  induction m with
  | zero => rfl
  | succ m ih => rw [mkN, List.length_set, ih]
theorem mk_get (l : List NInstr) (s : Nat) (G : List Bool) : ∀ (m x : Nat), x < G.length → ((mkN l s G m)[x]? = some true ↔ (G[x]? = some true ∨ ∃ j, j < m ∧ itN l s j = x)) := by
  intro m
  induction m with
  | zero => intro x hx; simp [mkN]
  | succ m ih =>
    intro x hx
    rw [mkN, List.getElem?_set]
    by_cases h : itN l s m = x
    · subst h
      rw [if_pos rfl, if_pos (by rw [mk_len]; exact hx)]
      simp only [true_iff]
      exact .inr ⟨m, by omega, rfl⟩
    · rw [if_neg h, ih x hx]
      constructor
      · rintro (h1 | ⟨j, h1, h2⟩)
        · exact .inl h1
        · exact .inr ⟨j, by omega, h2⟩
      · rintro (h1 | ⟨j, h1, h2⟩)
        · exact .inl h1
        · refine .inr ⟨j, ?_, h2⟩
          rcases Nat.lt_or_ge j m with h3 | h3
          · exact h3
          · exact absurd (by rw [show j = m by omega] at h2; exact h2) h
theorem count_set_new {L : List Bool} {p : Nat} (h : L[p]? = some false) : (L.set p true).count true = L.count true + 1 := by
  have hp : p < L.length := by
    rcases Nat.lt_or_ge p L.length with h1 | h1
    · exact h1
    · rw [List.getElem?_eq_none h1] at h; simp at h
  rw [List.getElem?_eq_getElem hp] at h
  simp only [Option.some.injEq] at h
  rw [List.count_set hp, h]
  simp
theorem allI_false {α : Type} {p : Nat → α → Bool} {l : List α} {k i : Nat} (hi : i < l.length) (h : p (k + i) l[i] = false) : allI p k l = false := by
  rw [Bool.eq_false_iff]
  intro h'
  have := allI_mem.1 h' i hi
  rw [h] at this; simp at this
end Go.Proofs.YtddpfdjgppabhaaGreatDoor
