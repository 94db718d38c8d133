/- Slots: what is set is read back; one operation of a region. -/
import Derived.Test.YtemkchpdcgkeiaaGreatDoorTiLeave
import Derived.Orders
namespace Go.TI
set_option linter.unusedSimpArgs false
set_option linter.unusedVariables false
set_option linter.unusedVariables false

theorem look_cons (k : Nat) (v : T) (r : Vars) (s : Nat) : look (.cons k v r) s = if k = s then some v else look r s := by
  show @Bool.rec (fun _ => Option T) (look r s) (some v) (Nat.beq k s) = _
  cases hb : Nat.beq k s with
  | true => have := Nat.eq_of_beq_eq_true hb; simp [this]
  | false => have := Nat.ne_of_beq_eq_false hb; simp [this]

theorem setVar_look {l l' : Vars} {s : Nat} {v : T} (hh : setVar l s v = some l') (s' : Nat) : look l' s' = if s' = s then some v else look l s' := by
  induction l generalizing l' with
  | nil =>
    have hh : some (Vars.cons s v .nil) = some l' := hh
    simp only [Option.some.injEq] at hh; subst hh
    rw [look_cons]
    by_cases h : s = s'
    · simp [h]
    · simp [h, Ne.symm h]
  | cons k u r ih =>
    have hh : @Bool.rec (fun _ => Option Vars) (bnd (setVar r s v) fun t => some (.cons k u t)) (some (.cons k v r)) (Nat.beq k s) = some l' := hh
    cases hb : Nat.beq k s with
    | true =>
      rw [hb] at hh
      have hk := Nat.eq_of_beq_eq_true hb
      have hh : some (Vars.cons k v r) = some l' := hh
      simp only [Option.some.injEq] at hh; subst hh
      rw [look_cons, look_cons, hk]
      by_cases h : s = s'
      · simp [h]
      · simp [h, Ne.symm h]
    | false =>
      rw [hb] at hh
      have hk := Nat.ne_of_beq_eq_false hb
      have hh : (bnd (setVar r s v) fun t => some (Vars.cons k u t)) = some l' := hh
      obtain ⟨t, ht, hh⟩ := bnd_eq_some.1 hh
      simp only [Option.some.injEq] at hh; subst hh
      rw [look_cons, look_cons, ih ht]
      by_cases h : k = s'
      · have : s' ≠ s := fun e => hk (h.trans e)
        simp [h, this]
      · simp [h]

theorem Env.get_set {mask : Nat} {e e' : Env} {s : Nat} {v : T} (hh : e.set mask s v = some e') (s' : Nat) : e'.get mask s' = if s' = s then some v else e.get mask s' := by
  obtain ⟨vars, tmps⟩ := e
  have hh : @Bool.rec (fun _ => Option Env) (some ⟨vars, .cons s v tmps⟩) (bnd (setVar vars s v) fun l => some ⟨l, tmps⟩) (lasts mask s) = some e' := hh
  have get : ∀ (a b : Vars), (⟨a, b⟩ : Env).get mask s' = if lasts mask s' = true then look a s' else look b s' := by
    intro a b
    show @Bool.rec (fun _ => Option T) (look b s') (look a s') (lasts mask s') = _
    cases lasts mask s' <;> rfl
  cases hl : lasts mask s with
  | false =>
    rw [hl] at hh
    have hh : some (⟨vars, .cons s v tmps⟩ : Env) = some e' := hh
    simp only [Option.some.injEq] at hh; subst hh
    rw [get, get, look_cons]
    by_cases h : s' = s
    · subst h; simp [hl]
    · simp [h, Ne.symm h]
  | true =>
    rw [hl] at hh
    have hh : (bnd (setVar vars s v) fun l => some (⟨l, tmps⟩ : Env)) = some e' := hh
    obtain ⟨l, hl', hh⟩ := bnd_eq_some.1 hh
    simp only [Option.some.injEq] at hh; subst hh
    rw [get, get, setVar_look hl']
    by_cases h : s' = s
    · subst h; simp [hl]
    · simp [h]

/-- A slot is set, in the frame as in the interpreter. -/
theorem RelE.put {hp : Array Obj} {μ : Mu} {mask : Nat} {e e' : Env} {a : Act} {d : Option Tmp} {v : T} {c : Value} (r : RelE hp μ mask e a.tmps) (hv : RelV hp μ v c) (hd : ∀ s, d = some s → s < a.tmps.size)
    (hh : e.dst mask d v = some e') : RelE hp μ mask e' (a.put d c).tmps := by
  cases d with
  | none =>
    have hh : some e = some e' := hh
    simp only [Option.some.injEq] at hh; subst hh
    exact r
  | some s =>
    have hh : e.set mask s v = some e' := hh
    intro s' v' hs
    rw [Env.get_set hh] at hs
    have hlt := hd s rfl
    by_cases h : s' = s
    · subst h
      simp only [if_true, Option.some.injEq] at hs; subst hs
      simpa [Act.put, Array.getD_eq_getD_getElem?, hlt] using hv
    · simp only [h, if_false] at hs
      have := r s' v' hs
      simpa [Act.put, Array.getD_eq_getD_getElem?, Array.getElem?_setIfInBounds_ne (Ne.symm h)] using this

theorem Act.put_size (a : Act) (d : Option Tmp) (c : Value) : (a.put d c).tmps.size = a.tmps.size := by cases d <;> simp [Act.put]
theorem Act.put_defs (a : Act) (d : Option Tmp) (c : Value) : (a.put d c).defers = a.defers := by cases d <;> rfl

/-- The guard, in the frame as in the interpreter. -/
theorem want_sound {hp : Array Obj} {μ : Mu} {mask : Nat} {e : Env} {a : Act} {ops : Array Oper} {o : Oper} {b : Bool} (r : RelE hp μ mask e a.tmps) (hd : ∀ (j : Nat) (p : Oper) s, ops[j]? = some p → p.dst = some s → s < a.tmps.size)
    (hh : wantT ops mask e o.guard = some b) : Region.wanted o (yielded ops a.tmps) = b := by
  unfold Region.wanted
  cases hg : o.guard with
  | none =>
    rw [hg] at hh
    have hh : some true = some b := hh
    simpa using hh
  | some p =>
    obtain ⟨j, want⟩ := p
    rw [hg] at hh
    have hh : (bnd (bnd (bnd (nthD ops.toList j) fun o => o.dst) fun d => e.get mask d) fun v =>
      match v with
      | .bool b => some (@Bool.rec (fun _ => Bool) (@Bool.rec (fun _ => Bool) true false want) want b)
      | _ => some false) = some b := hh
    replace hh := bnd_eq_some.1 hh; obtain ⟨v, hv, hh⟩ := hh
    replace hv := bnd_eq_some.1 hv; obtain ⟨d, hd', hv⟩ := hv
    replace hd' := bnd_eq_some.1 hd'; obtain ⟨p, hp', hpd⟩ := hd'
    rw [nthD_eq] at hp'
    have hp2 : ops[j]? = some p := by simpa using hp'
    have hlt := hd j p d hp2 hpd
    have hrel := r d v hv
    have hy : ((ops[j]?).bind (·.dst)).bind (a.tmps[·]?) = some (a.tmps.getD d Go.undef) := by
      simp [hp2, hpd, Array.getD_eq_getD_getElem?, hlt]
    simp only [yielded, hy]
    generalize a.tmps.getD d Go.undef = c at hrel
    cases hrel <;> simp only [Option.some.injEq] at hh <;> first
      | (subst hh; rfl)
      | skip
    rename_i b'
    subst hh
    cases b' <;> cases want <;> rfl
end Go.TI
