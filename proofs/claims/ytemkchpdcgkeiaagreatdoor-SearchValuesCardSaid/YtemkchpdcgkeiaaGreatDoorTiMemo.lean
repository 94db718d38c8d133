/- Calls that were carried out before: a table of them. -/
import Derived.Test.YtemkchpdcgkeiaaGreatDoorTiQuick
namespace Go.TI
set_option linter.unusedSimpArgs false
set_option linter.unusedVariables false
set_option linter.unusedVariables false

mutual
def eqV : T → T → Bool
  | .undef, b => (match b with | .undef => true | _ => false)
  | .bool x, b => (match b with | .bool y => Bool.casesOn x (!y) y | _ => false)
  | .int k n, b => (match b with | .int k' n' => decide (k = k') && decide (n = n') | _ => false)
  | .str s, b => (match b with | .str s' => decide (s = s') | _ => false)
  | .nilp, b => (match b with | .nilp => true | _ => false)
  | .nilf, b => (match b with | .nilf => true | _ => false)
  | .nili, b => (match b with | .nili => true | _ => false)
  | .nilm, b => (match b with | .nilm => true | _ => false)
  | .ewild, b => (match b with | .ewild => true | _ => false)
  | .ptr b ep i j, c => (match c with | .ptr b' ep' i' j' => Nat.beq b b' && Nat.beq ep ep' && Nat.beq i i' && Nat.beq j j' | _ => false)
  | .arr b ep i j f, c => (match c with | .arr b' ep' i' j' f' => Nat.beq b b' && Nat.beq ep ep' && Nat.beq i i' && Nat.beq j j' && Bool.casesOn f (!f') f' | _ => false)
  | .map b, c => (match c with | .map b' => Nat.beq b b' | _ => false)
  | .tree es f, c => (match c with | .tree es' f' => eqVs es es' && Bool.casesOn f (!f') f' | _ => false)
  | .agg es, c => (match c with | .agg es' => eqVs es es' | _ => false)
  | .func f es, c => (match c with | .func f' es' => Nat.beq f f' && eqVs es es' | _ => false)
  | .iface t v, c => (match c with | .iface t' v' => Nat.beq t t' && eqV v v' | _ => false)
  | _, _ => false
def eqVs : List T → List T → Bool
  | [], b => (match b with | [] => true | _ => false)
  | x :: xs, b => (match b with | y :: ys => eqV x y && eqVs xs ys | _ => false)
end

theorem boolEq {x y : Bool} (h : (@Bool.rec (fun _ => Bool) (!y) y x) = true) : x = y := by cases x <;> cases y <;> simp_all

mutual
theorem eqV_eq : (a b : T) → eqV a b = true → a = b
  | .undef, b, h => by cases b <;> first | rfl | simp [eqV] at h
  | .bool x, b, h => by
    cases b <;> first | (simp [eqV] at h; done) | skip
    rename_i y
    have h : (@Bool.rec (fun _ => Bool) (!y) y x) = true := by unfold eqV at h; exact h
    rw [boolEq h]
  | .int k n, b, h => by cases b <;> simp [eqV] at h; obtain ⟨rfl, rfl⟩ := h; rfl
  | .str s, b, h => by cases b <;> simp [eqV] at h; subst h; rfl
  | .nilp, b, h => by cases b <;> first | rfl | simp [eqV] at h
  | .nilf, b, h => by cases b <;> first | rfl | simp [eqV] at h
  | .nili, b, h => by cases b <;> first | rfl | simp [eqV] at h
  | .nilm, b, h => by cases b <;> first | rfl | simp [eqV] at h
  | .ewild, b, h => by cases b <;> first | rfl | simp [eqV] at h
  | .ptr b ep i j, c, h => by cases c <;> simp [eqV] at h; obtain ⟨⟨⟨rfl, rfl⟩, rfl⟩, rfl⟩ := h; rfl
  | .arr b ep i j f, c, h => by
    cases c <;> first | (simp [eqV] at h; done) | skip
    rename_i b' ep' i' j' f'
    have h : (Nat.beq b b' && Nat.beq ep ep' && Nat.beq i i' && Nat.beq j j' && @Bool.rec (fun _ => Bool) (!f') f' f) = true := by unfold eqV at h; exact h
    simp only [Bool.and_eq_true] at h
    obtain ⟨⟨⟨⟨h1, h2⟩, h3⟩, h4⟩, h5⟩ := h
    rw [Nat.eq_of_beq_eq_true h1, Nat.eq_of_beq_eq_true h2, Nat.eq_of_beq_eq_true h3, Nat.eq_of_beq_eq_true h4, boolEq h5]
  | .map b, c, h => by cases c <;> simp [eqV] at h; subst h; rfl
  | .tree es f, c, h => by
    cases c <;> first | (simp [eqV] at h; done) | skip
    rename_i es' f'
    have h : (eqVs es es' && @Bool.rec (fun _ => Bool) (!f') f' f) = true := by unfold eqV at h; exact h
    simp only [Bool.and_eq_true] at h
    rw [eqVs_eq es es' h.1, boolEq h.2]
  | .agg es, c, h => by
    cases c <;> first | (simp [eqV] at h; done) | skip
    rename_i es'
    have h : eqVs es es' = true := by unfold eqV at h; exact h
    rw [eqVs_eq es es' h]
  | .func f es, c, h => by
    cases c <;> first | (simp [eqV] at h; done) | skip
    rename_i f' es'
    have h : (Nat.beq f f' && eqVs es es') = true := by unfold eqV at h; exact h
    simp only [Bool.and_eq_true] at h
    rw [Nat.eq_of_beq_eq_true h.1, eqVs_eq es es' h.2]
  | .iface t v, c, h => by
    cases c <;> first | (simp [eqV] at h; done) | skip
    rename_i t' v'
    have h : (Nat.beq t t' && eqV v v') = true := by unfold eqV at h; exact h
    simp only [Bool.and_eq_true] at h
    rw [Nat.eq_of_beq_eq_true h.1, eqV_eq v v' h.2]
  | .tptr _, b, h => by simp [eqV] at h
  | .iter _, b, h => by simp [eqV] at h
  | .tuple _, b, h => by simp [eqV] at h
theorem eqVs_eq : (a b : List T) → eqVs a b = true → a = b
  | [], b, h => by cases b <;> first | rfl | simp [eqVs] at h
  | x :: xs, b, h => by
    cases b <;> first | (simp [eqVs] at h; done) | skip
    rename_i y ys
    have h : (eqV x y && eqVs xs ys) = true := by unfold eqVs at h; exact h
    simp only [Bool.and_eq_true] at h
    rw [eqV_eq x y h.1, eqVs_eq xs ys h.2]
end

def eqBox (a b : Box) : Bool := Nat.beq a.sz b.sz && Nat.beq a.ep b.ep && Nat.beq a.ver b.ver && Bool.casesOn a.exact (!b.exact) b.exact && Bool.casesOn a.it (!b.it) b.it && eqVs a.elems b.elems
theorem eqBox_eq {a b : Box} (h : eqBox a b = true) : a = b := by
  obtain ⟨a1, a2, a3, a4, a5, a6⟩ := a
  obtain ⟨b1, b2, b3, b4, b5, b6⟩ := b
  have h : (Nat.beq a1 b1 && Nat.beq a2 b2 && Nat.beq a3 b3 && @Bool.rec (fun _ => Bool) (!b4) b4 a4 && @Bool.rec (fun _ => Bool) (!b5) b5 a5 && eqVs a6 b6) = true := h
  simp only [Bool.and_eq_true] at h
  obtain ⟨⟨⟨⟨⟨h1, h2⟩, h3⟩, h4⟩, h5⟩, h6⟩ := h
  rw [Nat.eq_of_beq_eq_true h1, Nat.eq_of_beq_eq_true h2, Nat.eq_of_beq_eq_true h3, boolEq h4, boolEq h5, eqVs_eq _ _ h6]
def eqBoxes : List Box → List Box → Bool
  | [], b => (match b with | [] => true | _ => false)
  | x :: xs, b => (match b with | y :: ys => eqBox x y && eqBoxes xs ys | _ => false)
theorem eqBoxes_eq : ∀ (a b : List Box), eqBoxes a b = true → a = b := by
  intro a
  induction a with
  | nil => intro b h; cases b <;> first | rfl | simp [eqBoxes] at h
  | cons x xs ih =>
    intro b h
    cases b with
    | nil => simp [eqBoxes] at h
    | cons y ys =>
      simp only [eqBoxes, Bool.and_eq_true] at h
      rw [eqBox_eq h.1, ih ys h.2]
def eqH (a b : H) : Bool := Nat.beq a.size b.size && Nat.beq a.low b.low && eqBoxes a.boxes b.boxes
theorem eqH_eq {a b : H} (h : eqH a b = true) : a = b := by
  obtain ⟨a1, a2, a3⟩ := a
  obtain ⟨b1, b2, b3⟩ := b
  have h : (Nat.beq a1 b1 && Nat.beq a2 b2 && eqBoxes a3 b3) = true := h
  simp only [Bool.and_eq_true] at h
  rw [Nat.eq_of_beq_eq_true h.1.1, Nat.eq_of_beq_eq_true h.1.2, eqBoxes_eq _ _ h.2]

/-- A call that was carried out. -/
structure Ent where
  f : Nat
  args : List T
  h : H
  r : T
  h' : H

noncomputable def findE (es : List Ent) (f : Nat) (args : List T) (h : H) : Option (T × H) :=
  @List.rec Ent (fun _ => Option (T × H)) none (fun e _ ih => Ent.casesOn e fun f' args' h1 r h2 =>
    @Bool.rec (fun _ => Option (T × H)) ih (@Bool.rec (fun _ => Option (T × H)) ih (@Bool.rec (fun _ => Option (T × H)) ih (some (r, h2)) (eqH h h1)) (eqVs args args')) (Nat.beq f f')) es

def CallAt (P : Program) (cx : Ctx) (e : Ent) : Prop :=
  ∀ base w μ (cargs : Array Value), St cx base w.heap μ e.h → RelL w.heap μ e.args cargs.toList → Ran P (AfterG cx base w μ e.h e.r e.h') ((callFunc e.f cargs).run P w)

inductive EntsOk (P : Program) (cx : Ctx) : List Ent → Prop where
  | nil : EntsOk P cx []
  | cons {e : Ent} {es : List Ent} : CallAt P cx e → EntsOk P cx es → EntsOk P cx (e :: es)

theorem findE_ok {P : Program} {cx : Ctx} {es : List Ent} (he : EntsOk P cx es) {f : Nat} {args : List T} {h : H} {r : T} {h' : H} (hh : findE es f args h = some (r, h')) : CallAt P cx ⟨f, args, h, r, h'⟩ := by
  induction he with
  | nil => simp [findE] at hh
  | cons hc _ ih =>
    rename_i e es _
    obtain ⟨f', args', h1, r1, h2⟩ := e
    have hh : @Bool.rec (fun _ => Option (T × H)) (findE es f args h) (@Bool.rec (fun _ => Option (T × H)) (findE es f args h) (@Bool.rec (fun _ => Option (T × H)) (findE es f args h) (some (r1, h2)) (eqH h h1)) (eqVs args args')) (Nat.beq f f') = some (r, h') := hh
    cases b1 : Nat.beq f f' with
    | false => rw [b1] at hh; exact ih hh
    | true =>
      cases b2 : eqVs args args' with
      | false => rw [b1, b2] at hh; exact ih hh
      | true =>
        cases b3 : eqH h h1 with
        | false => rw [b1, b2, b3] at hh; exact ih hh
        | true =>
          rw [b1, b2, b3] at hh
          have hh : some (r1, h2) = some (r, h') := hh
          simp only [Option.some.injEq, Prod.mk.injEq] at hh
          obtain ⟨rfl, rfl⟩ := hh
          rw [Nat.eq_of_beq_eq_true b1, eqVs_eq _ _ b2, eqH_eq b3]
          exact hc

noncomputable def memo (es : List Ent) (ft : FuncId → Option Quick) : FuncId → Option Quick := fun f =>
  Option.casesOn (ft f) none fun g => some fun cf n args h => Option.casesOn (findE es f args h) (g cf n args h) fun p => some p

theorem memo_ok {P : Program} {cx : Ctx} {es : List Ent} {ft : FuncId → Option Quick} (he : EntsOk P cx es) (hq : ∀ f g, ft f = some g → QuickOk P cx f g) : ∀ f g, memo es ft f = some g → QuickOk P cx f g := by
  intro f g hg
  unfold memo at hg
  cases hf : ft f with
  | none => rw [hf] at hg; simp at hg
  | some g0 =>
    rw [hf] at hg
    simp only [Option.some.injEq] at hg
    subst hg
    intro cf ck n args h r h' hh base w μ cargs s hL
    have hh : @Option.rec (T × H) (fun _ => Option (T × H)) (g0 cf n args h) (fun p => some p) (findE es f args h) = some (r, h') := hh
    cases hE : findE es f args h with
    | none => rw [hE] at hh; exact hq f g0 hf cf ck n args h r h' hh base w μ cargs s hL
    | some p =>
      rw [hE] at hh
      have hh : some p = some (r, h') := hh
      simp only [Option.some.injEq] at hh
      subst hh
      exact findE_ok he hE base w μ cargs s hL

noncomputable def callM (es : List Ent) (ft : FuncId → Option Quick) (n : Nat) : CallF := callF (memo es ft) n

theorem callM_ok {P : Program} {cx : Ctx} {es : List Ent} {ft : FuncId → Option Quick} (he : EntsOk P cx es) (hq : ∀ f g, ft f = some g → QuickOk P cx f g) (n : Nat) : CallOk P cx (callM es ft n) := callF_sound (memo_ok he hq) n

/-- The next call into the table. -/
theorem EntsOk.next {P : Program} {cx : Ctx} {es : List Ent} {ft : FuncId → Option Quick} (he : EntsOk P cx es) (hq : ∀ f g, ft f = some g → QuickOk P cx f g) {n : Nat} {e : Ent} (hh : callM es ft n e.f e.args e.h = some (e.r, e.h')) : EntsOk P cx (e :: es) :=
  .cons (fun base w μ cargs s hL => callM_ok he hq n e.f e.args e.h e.r e.h' hh base w μ cargs s hL) he
end Go.TI
