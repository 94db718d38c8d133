/- Tables of types and functions. -/
import Derived.Test.YtemkchpdcgkeiaaGreatDoorTiCall
namespace Go.TI
set_option linter.unusedSimpArgs false
set_option linter.unusedVariables false

inductive Tree (α : Type) where
  | nil
  | node (l : Tree α) (k : Nat) (v : α) (r : Tree α)

noncomputable def Tree.find {α : Type} (t : Tree α) (k : Nat) : Option α :=
  @Tree.rec α (fun _ => Option α) none (fun _ k' v _ ihl ihr => @Bool.rec (fun _ => Option α) (@Bool.rec (fun _ => Option α) ihr ihl (Nat.blt k k')) (some v) (Nat.beq k k')) t

def Tree.toList {α : Type} : Tree α → List (Nat × α)
  | .nil => []
  | .node l k v r => l.toList ++ (k, v) :: r.toList

theorem Tree.find_mem {α : Type} {t : Tree α} {k : Nat} {v : α} (h : t.find k = some v) : (k, v) ∈ t.toList := by
  induction t with
  | nil => simp [Tree.find] at h
  | node l k' v' r ihl ihr =>
    have h : @Bool.rec (fun _ => Option α) (@Bool.rec (fun _ => Option α) (r.find k) (l.find k) (Nat.blt k k')) (some v') (Nat.beq k k') = some v := h
    simp only [Tree.toList, List.mem_append, List.mem_cons]
    cases hb : Nat.beq k k' with
    | true =>
      rw [hb] at h
      have hk := Nat.eq_of_beq_eq_true hb
      have hv : v' = v := Option.some.inj h
      rw [hk, hv]
      exact .inr (.inl rfl)
    | false =>
      rw [hb] at h
      cases hl : Nat.blt k k' with
      | true => rw [hl] at h; exact .inl (ihl h)
      | false => rw [hl] at h; exact .inr (.inr (ihr h))

inductive Tree.All {α : Type} (p : Nat → α → Prop) : Tree α → Prop where
  | nil : All p .nil
  | node {l : Tree α} {k : Nat} {v : α} {r : Tree α} : All p l → p k v → All p r → All p (.node l k v r)

theorem Tree.All.find {α : Type} {p : Nat → α → Prop} {t : Tree α} (h : t.All p) {k : Nat} {v : α} (hf : t.find k = some v) : p k v := by
  have hm := Tree.find_mem hf
  clear hf
  induction h with
  | nil => simp [Tree.toList] at hm
  | node hl hp hr ihl ihr =>
    simp only [Tree.toList, List.mem_append, List.mem_cons, Prod.mk.injEq] at hm
    rcases hm with h | ⟨rfl, rfl⟩ | h
    · exact ihl h
    · exact hp
    · exact ihr h
end Go.TI
