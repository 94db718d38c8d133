/- The interpreter, quick: regions as terms of their own; the same results. -/
import Derived.Test.YtemkchpdcgkeiaaGreatDoorTiPrim
namespace Go.TI
set_option linter.unusedSimpArgs false
set_option linter.unusedVariables false
set_option linter.unusedVariables false

noncomputable def fin (cf : CallF) (h : H) (d : Option Did) : Option (T × H) := bnd d fun d => Did.casesOn d (fun v h' => some (v, h')) (fun f args => cf f args h)
def finV (h : H) (x : Option T) : Option (T × H) := Option.casesOn x none fun v => some (v, h)
theorem fin_val (cf : CallF) : (fun (h : H) (x : Option T) => fin cf h (val h x)) = finV := by
  funext h x; cases x <;> rfl
def finE (h : H) (n : Bool) (x : Option Bool) : Option (T × H) := Bool.casesOn n none (Option.casesOn x none fun r => Bool.casesOn r (some (.bool false, h)) (some (.bool true, h)))
def finN (h : H) (n : Bool) (x : Option Bool) : Option (T × H) := Bool.casesOn n none (Option.casesOn x none fun r => Bool.casesOn r (some (.bool true, h)) (some (.bool false, h)))
theorem fin_eq (cf : CallF) : (fun (h : H) (n : Bool) (x : Option Bool) => fin cf h (chk n (bnd x fun r => val h (rBool r)))) = finE := by
  funext h n x; cases n <;> cases x <;> first | rfl | (rename_i r; cases r <;> rfl)
theorem fin_ne (cf : CallF) : (fun (h : H) (n : Bool) (x : Option Bool) => fin cf h (chk n (bnd x fun r => val h (rBool (!r))))) = finN := by
  funext h n x; cases n <;> cases x <;> first | rfl | (rename_i r; cases r <;> rfl)

section
variable {cx : Ctx} {cf : CallF} {mask : Nat} {ops : Array Oper}

noncomputable def stepV (cx : Ctx) (cf : CallF) (mask : Nat) (ops : Array Oper) (e : Env) (h : H) (o : Oper) : Option (T × H) :=
  bnd (wantT ops mask e o.guard) fun want => Bool.casesOn want (some (.undef, h)) (fin cf h (opH o.op cx mask e h))

/-- As bnd; opened first by the kernel. -/
noncomputable abbrev nxt {α ρ : Type} (x : Option α) (k : α → Option ρ) : Option ρ := @Option.rec α (fun _ => Option ρ) none k x

noncomputable def runK {ρ : Type} (cx : Ctx) (cf : CallF) (mask : Nat) (ops : Array Oper) (l : List Oper) : Env → H → (Env → H → Option ρ) → Option ρ :=
  @List.rec Oper (fun _ => Env → H → (Env → H → Option ρ) → Option ρ) (fun e h k => k e h)
    (fun o _ ih e h k => nxt (stepV cx cf mask ops e h o) fun p => two p fun v h' => nxt (e.dst mask o.dst v) fun e' => ih e' h' k) l

theorem stepOp_stepV {ρ : Type} (e : Env) (h : H) (o : Oper) (k : Env → H → Option ρ) :
    (bnd (stepOp cx cf mask ops e h o) fun p => two p k) = bnd (stepV cx cf mask ops e h o) fun p => two p fun v h' => bnd (e.dst mask o.dst v) fun e' => k e' h' := by
  unfold stepOp stepV
  cases wantT ops mask e o.guard with
  | none => rfl
  | some want =>
    simp only [bnd_some]
    cases want with
    | false =>
      simp only [two_mk, bnd_some]
      cases e.dst mask o.dst .undef <;> rfl
    | true =>
      simp only
      unfold fin
      cases opH o.op cx mask e h with
      | none => rfl
      | some d =>
        simp only [bnd_some]
        cases d with
        | val v h' =>
          simp only [two_mk, bnd_some]
          cases e.dst mask o.dst v <;> rfl
        | «call» f args =>
          simp only
          cases cf f args h with
          | none => rfl
          | some r =>
            obtain ⟨v, h'⟩ := r
            simp only [two_mk, bnd_some]
            cases e.dst mask o.dst v <;> rfl

theorem runK_eq {ρ : Type} : ∀ (l : List Oper) (e : Env) (h : H) (k : Env → H → Option ρ), (bnd (runOps cx cf mask ops l e h) fun p => two p k) = runK cx cf mask ops l e h k := by
  intro l
  induction l with
  | nil => intro e h k; rfl
  | cons o l ih =>
    intro e h k
    have h1 : runOps cx cf mask ops (o :: l) e h = bnd (stepOp cx cf mask ops e h o) fun p => two p fun e' h' => runOps cx cf mask ops l e' h' := rfl
    have h2 : runK cx cf mask ops (o :: l) e h k = bnd (stepV cx cf mask ops e h o) fun p => two p fun v h' => bnd (e.dst mask o.dst v) fun e' => runK cx cf mask ops l e' h' k := rfl
    rw [h1, h2, ← stepOp_stepV e h o fun e' h' => runK cx cf mask ops l e' h' k]
    cases stepOp cx cf mask ops e h o with
    | none => rfl
    | some p => obtain ⟨e', h'⟩ := p; exact ih e' h' k
end

/-! ### slots: which there are -/

def keys : Vars → List Nat
  | .nil => []
  | .cons k _ r => k :: keys r

theorem keys_setVar {l l' : Vars} {s : Nat} {v : T} (hs : s ∈ keys l) (hh : setVar l s v = some l') : keys l' = keys l := by
  induction l generalizing l' with
  | nil => simp [keys] at hs
  | cons k u r ih =>
    have hh : @Bool.rec (fun _ => Option Vars) (bnd (setVar r s v) fun t => some (.cons k u t)) (some (.cons k v r)) (Nat.beq k s) = some l' := hh
    cases hb : Nat.beq k s with
    | true =>
      rw [hb] at hh
      have hh : some (Vars.cons k v r) = some l' := hh
      simp only [Option.some.injEq] at hh; subst hh; rfl
    | false =>
      rw [hb] at hh
      have hh : (bnd (setVar r s v) fun t => some (Vars.cons k u t)) = some l' := hh
      obtain ⟨t, ht, hh⟩ := bnd_eq_some.1 hh
      simp only [Option.some.injEq] at hh; subst hh
      have hk := Nat.ne_of_beq_eq_false hb
      have : s ∈ keys r := by
        rcases List.mem_cons.1 hs with h | h
        · exact absurd h.symm hk
        · exact h
      simp [keys, ih this ht]

def mkV : List Nat → List T → Vars
  | k :: ks, x :: xs => .cons k x (mkV ks xs)
  | _, _ => .nil

theorem vars_of_keys : ∀ {K : List Nat} {l : Vars}, keys l = K → ∃ xs, xs.length = K.length ∧ l = mkV K xs := by
  intro K
  induction K with
  | nil => intro l h; cases l with | nil => exact ⟨[], rfl, rfl⟩ | cons => simp [keys] at h
  | cons k K ih =>
    intro l h
    cases l with
    | nil => simp [keys] at h
    | cons k' x r =>
      simp only [keys, List.cons.injEq] at h
      obtain ⟨rfl, h⟩ := h
      obtain ⟨xs, hl, rfl⟩ := ih h
      exact ⟨x :: xs, by simp [hl], rfl⟩

/-- The same where these slots are there. -/
def EqR (K : List Nat) (f g : Env → H → Out) : Prop := ∀ e h, keys e.vars = K → f e h = g e h
/-- The slots stay. -/
def Pres (K : List Nat) (f : Env → H → Out) : Prop := ∀ e h x e' h', keys e.vars = K → f e h = some (x, e', h') → keys e'.vars = K

section
variable {cx : Ctx} {cf : CallF} {mask fuel : Nat} {K : List Nat}

def okOps (mask : Nat) (K : List Nat) (ops : Array Oper) : Bool := ops.toList.all fun o => match o.dst with | some s => !lasts mask s || K.contains s | none => true
def okKeys (mask : Nat) (K : List Nat) : Code → Bool
  | .region _ ops _ => okOps mask K ops
  | .seq a b => okKeys mask K a && okKeys mask K b
  | .cond _ a b => okKeys mask K a && okKeys mask K b
  | .block _ b => okKeys mask K b
  | .loop b => okKeys mask K b
  | _ => true

theorem keys_dst {e e' : Env} {o : Oper} {v : T} (ho : (match o.dst with | some s => !lasts mask s || K.contains s | none => true) = true) (hk : keys e.vars = K) (hh : e.dst mask o.dst v = some e') : keys e'.vars = K := by
  cases hd : o.dst with
  | none =>
    rw [hd] at hh
    have hh : some e = some e' := hh
    simp only [Option.some.injEq] at hh; subst hh; exact hk
  | some s =>
    rw [hd] at hh ho
    obtain ⟨vars, tmps⟩ := e
    have hh : @Bool.rec (fun _ => Option Env) (some ⟨vars, .cons s v tmps⟩) (bnd (setVar vars s v) fun l => some ⟨l, tmps⟩) (lasts mask s) = some e' := hh
    cases hl : lasts mask s with
    | false =>
      rw [hl] at hh
      have hh : some (⟨vars, .cons s v tmps⟩ : Env) = some e' := hh
      simp only [Option.some.injEq] at hh; subst hh; exact hk
    | true =>
      rw [hl] at hh
      have hh : (bnd (setVar vars s v) fun l => some (⟨l, tmps⟩ : Env)) = some e' := hh
      obtain ⟨l, hl', hh⟩ := bnd_eq_some.1 hh
      simp only [Option.some.injEq] at hh; subst hh
      simp only [hl, Bool.not_true, Bool.false_or] at ho
      have hs : s ∈ keys vars := by
        have hk : keys vars = K := hk
        rw [hk]; simpa using ho
      show keys l = K
      rw [keys_setVar hs hl']; exact hk

theorem keys_step {e e' : Env} {h h' : H} {o : Oper} {ops : Array Oper} (ho : (match o.dst with | some s => !lasts mask s || K.contains s | none => true) = true) (hk : keys e.vars = K) (hh : stepOp cx cf mask ops e h o = some (e', h')) : keys e'.vars = K := by
  rcases stepOp_inv hh with ⟨_, h1, _⟩ | ⟨_, v, _, h1⟩
  · exact keys_dst ho hk h1
  · exact keys_dst ho hk h1

theorem keys_runOps {ops : Array Oper} : ∀ (l : List Oper) (e e' : Env) (h h' : H), (∀ o ∈ l, (match o.dst with | some s => !lasts mask s || K.contains s | none => true) = true) → keys e.vars = K → runOps cx cf mask ops l e h = some (e', h') → keys e'.vars = K := by
  intro l
  induction l with
  | nil =>
    intro e e' h h' _ hk hh
    have hh : some (e, h) = some (e', h') := hh
    simp only [Option.some.injEq, Prod.mk.injEq] at hh
    rw [← hh.1]; exact hk
  | cons o l ih =>
    intro e e' h h' ho hk hh
    have hh : (bnd (stepOp cx cf mask ops e h o) fun p => two p fun e' h' => runOps cx cf mask ops l e' h') = some (e', h') := hh
    obtain ⟨⟨e1, h1⟩, hs, hh⟩ := bnd_eq_some.1 hh
    exact ih e1 e' h1 h' (fun o' ho' => ho o' (by simp [ho'])) (keys_step (ho o (by simp)) hk hs) hh

theorem keys_runDraw {ops : Array Oper} : ∀ (l : List Oper) (i : Nat) (s : Seen) (e e' : Env) (h h' : H), (∀ o ∈ l, (match o.dst with | some s => !lasts mask s || K.contains s | none => true) = true) → keys e.vars = K →
    runDraw cx cf mask ops l i s e h = some (e', h') → keys e'.vars = K := by
  intro l
  induction l with
  | nil =>
    intro i s e e' h h' _ hk hh
    have hh : some (e, h) = some (e', h') := hh
    simp only [Option.some.injEq, Prod.mk.injEq] at hh
    rw [← hh.1]; exact hk
  | cons o l ih =>
    intro i s e e' h h' ho hk hh
    obtain ⟨e1, h1, want, hs, hw, s', hrun, _⟩ := runDraw_cons hh
    exact ih (i + 1) s' e1 e' h1 h' (fun o' ho' => ho o' (by simp [ho'])) (keys_step (ho o (by simp)) hk hs) hrun

theorem pres_region {ops : Array Oper} {draw : Bool} (hok : okOps mask K ops = true) : Pres K (regionT cx cf mask ops draw) := by
  intro e h x e' h' hk hh
  unfold okOps at hok
  have hok := List.all_eq_true.1 hok
  obtain ⟨vars, tmps⟩ := e
  cases draw with
  | false =>
    have hh : (bnd (runOps cx cf mask ops ops.toList ⟨vars, .nil⟩ h) fun r => two r fun e' h' => some (Ex.normal, (⟨e'.vars, .nil⟩ : Env), h')) = some (x, e', h') := hh
    obtain ⟨⟨e1, h1⟩, hr, hh⟩ := bnd_eq_some.1 hh
    simp only [two_mk, Option.some.injEq, Prod.mk.injEq] at hh
    obtain ⟨_, rfl, _⟩ := hh
    exact keys_runOps ops.toList ⟨vars, .nil⟩ e1 h h1 hok hk hr
  | true =>
    have hh : (bnd (runDraw cx cf mask ops ops.toList 0 ⟨[], []⟩ ⟨vars, .nil⟩ h) fun r => two r fun e' h' => some (Ex.normal, (⟨e'.vars, .nil⟩ : Env), h')) = some (x, e', h') := hh
    obtain ⟨⟨e1, h1⟩, hr, hh⟩ := bnd_eq_some.1 hh
    simp only [two_mk, Option.some.injEq, Prod.mk.injEq] at hh
    obtain ⟨_, rfl, _⟩ := hh
    exact keys_runDraw ops.toList 0 ⟨[], []⟩ ⟨vars, .nil⟩ e1 h h1 hok hk hr

theorem pres_loop {f : Env → H → Out} (hf : Pres K f) : ∀ n, Pres K (loopT f n) := by
  intro n
  induction n with
  | zero => intro e h x e' h' _ hh; simp [loopT] at hh
  | succ n ih =>
    intro e h x e' h' hk hh
    have hh : (bnd (f e h) fun r => three r fun x e' h' => @Ex.rec (fun _ => Out) (loopT f n e' h') (fun i => some (.exit i, e', h')) (some (.ret, e', h')) x) = some (x, e', h') := hh
    obtain ⟨⟨y, e1, h1⟩, hb, hh⟩ := bnd_eq_some.1 hh
    have hk1 := hf e h y e1 h1 hk hb
    cases y with
    | normal => exact ih e1 h1 x e' h' hk1 hh
    | exit i =>
      have hh : some (Ex.exit i, e1, h1) = some (x, e', h') := hh
      simp only [Option.some.injEq, Prod.mk.injEq] at hh
      obtain ⟨_, rfl, _⟩ := hh; exact hk1
    | ret =>
      have hh : some (Ex.ret, e1, h1) = some (x, e', h') := hh
      simp only [Option.some.injEq, Prod.mk.injEq] at hh
      obtain ⟨_, rfl, _⟩ := hh; exact hk1

theorem pres_code : ∀ (c : Code), okKeys mask K c = true → Pres K (codeT cx cf fuel mask c) := by
  intro c
  have same : ∀ {x : Ex}, Pres K (fun e h => some (x, e, h)) := by
    intro x e h y e' h' hk hh
    simp only [Option.some.injEq, Prod.mk.injEq] at hh
    rw [← hh.2.1]; exact hk
  induction c with
  | skip => intro _; exact same
  | exit id => intro _; exact same
  | ret => intro _; exact same
  | region id ops draw => intro hok; exact pres_region hok
  | seq a b iha ihb =>
    intro hok e h x e' h' hk hh
    simp only [okKeys, Bool.and_eq_true] at hok
    have hh : (bnd (codeT cx cf fuel mask a e h) fun r => three r fun x e' h' => @Ex.rec (fun _ => Out) (codeT cx cf fuel mask b e' h') (fun i => some (.exit i, e', h')) (some (.ret, e', h')) x) = some (x, e', h') := hh
    obtain ⟨⟨y, e1, h1⟩, hb, hh⟩ := bnd_eq_some.1 hh
    have hk1 := iha hok.1 e h y e1 h1 hk hb
    cases y with
    | normal => exact ihb hok.2 e1 h1 x e' h' hk1 hh
    | exit i =>
      have hh : some (Ex.exit i, e1, h1) = some (x, e', h') := hh
      simp only [Option.some.injEq, Prod.mk.injEq] at hh
      obtain ⟨_, rfl, _⟩ := hh; exact hk1
    | ret =>
      have hh : some (Ex.ret, e1, h1) = some (x, e', h') := hh
      simp only [Option.some.injEq, Prod.mk.injEq] at hh
      obtain ⟨_, rfl, _⟩ := hh; exact hk1
  | cond o a b iha ihb =>
    intro hok e h x e' h' hk hh
    simp only [okKeys, Bool.and_eq_true] at hok
    have hh : (bnd (opnd cx mask e o) fun v => match v with
      | .bool t => @Bool.rec (fun _ => Out) (codeT cx cf fuel mask b e h) (codeT cx cf fuel mask a e h) t
      | _ => none) = some (x, e', h') := hh
    obtain ⟨v, hv, hh⟩ := bnd_eq_some.1 hh
    cases v <;> simp only [reduceCtorEq] at hh
    rename_i t
    cases t with
    | true => exact iha hok.1 e h x e' h' hk hh
    | false => exact ihb hok.2 e h x e' h' hk hh
  | block id b ih =>
    intro hok e h x e' h' hk hh
    have hh : (bnd (codeT cx cf fuel mask b e h) fun r => three r fun x e' h' => @Ex.rec (fun _ => Out) (some (.normal, e', h')) (fun i => @Bool.rec (fun _ => Out) (some (.exit i, e', h')) (some (.normal, e', h')) (Nat.beq i id)) (some (.ret, e', h')) x) = some (x, e', h') := hh
    obtain ⟨⟨y, e1, h1⟩, hb, hh⟩ := bnd_eq_some.1 hh
    have hk1 := ih hok e h y e1 h1 hk hb
    have : e' = e1 := by
      cases y with
      | normal => simp only [three_mk, Option.some.injEq, Prod.mk.injEq] at hh; exact hh.2.1.symm
      | exit i => simp only [three_mk] at hh; cases hbq : Nat.beq i id <;> rw [hbq] at hh <;> simp only [Option.some.injEq, Prod.mk.injEq] at hh <;> exact hh.2.1.symm
      | ret => simp only [three_mk, Option.some.injEq, Prod.mk.injEq] at hh; exact hh.2.1.symm
    rw [this]; exact hk1
  | loop b ih => intro hok; exact pres_loop (ih hok) fuel
  | _ => intro _ e h x e' h' _ hh; exact absurd hh (by simp [codeT])

/-! ### the same, part by part -/

theorem EqR.refl (f : Env → H → Out) : EqR K f f := fun _ _ _ => rfl

theorem EqR.seq {a b : Code} {a' b' : Env → H → Out} (hok : okKeys mask K a = true) (ha : EqR K (codeT cx cf fuel mask a) a') (hb : EqR K (codeT cx cf fuel mask b) b') : EqR K (codeT cx cf fuel mask (.seq a b)) (seqT a' b') := by
  intro e h hk
  show seqT (codeT cx cf fuel mask a) (codeT cx cf fuel mask b) e h = seqT a' b' e h
  unfold seqT
  rw [ha e h hk]
  cases hx : a' e h with
  | none => rfl
  | some r =>
    obtain ⟨y, e1, h1⟩ := r
    have hk1 := pres_code (cx := cx) (cf := cf) (fuel := fuel) a hok e h y e1 h1 hk (by rw [ha e h hk]; exact hx)
    simp only [bnd_some, three_mk]
    cases y with
    | normal => exact hb e1 h1 hk1
    | exit i => rfl
    | ret => rfl

/-- A branch on a slot that lasts. -/
noncomputable def condF (s : Nat) (a b : Env → H → Out) (e : Env) (h : H) : Out :=
  Env.casesOn e fun vs _ => bnd (look vs s) fun v => match v with
    | .bool t => Bool.casesOn t (b e h) (a e h)
    | _ => none

theorem EqR.cond {s : Nat} {a b : Code} {a' b' : Env → H → Out} (hl : lasts mask s = true) (ha : EqR K (codeT cx cf fuel mask a) a') (hb : EqR K (codeT cx cf fuel mask b) b') : EqR K (codeT cx cf fuel mask (.cond (.tmp s) a b)) (condF s a' b') := by
  intro e h hk
  obtain ⟨vars, tmps⟩ := e
  show condT cx mask (.tmp s) (codeT cx cf fuel mask a) (codeT cx cf fuel mask b) ⟨vars, tmps⟩ h = condF s a' b' ⟨vars, tmps⟩ h
  unfold condT condF
  have : opnd cx mask ⟨vars, tmps⟩ (.tmp s) = look vars s := by
    show @Bool.rec (fun _ => Option T) (look tmps s) (look vars s) (lasts mask s) = _
    rw [hl]
  rw [this]
  simp only
  cases look vars s with
  | none => rfl
  | some v =>
    simp only [bnd_some]
    cases v <;> first
      | rfl
      | (rename_i t; cases t <;> first | exact ha ⟨vars, tmps⟩ h hk | exact hb ⟨vars, tmps⟩ h hk)

theorem EqR.block {id : Nat} {a : Code} {a' : Env → H → Out} (ha : EqR K (codeT cx cf fuel mask a) a') : EqR K (codeT cx cf fuel mask (.block id a)) (blockT id a') := by
  intro e h hk
  show blockT id (codeT cx cf fuel mask a) e h = blockT id a' e h
  unfold blockT
  rw [ha e h hk]

theorem EqR.loop {a : Code} {a' : Env → H → Out} (hok : okKeys mask K a = true) (ha : EqR K (codeT cx cf fuel mask a) a') : EqR K (codeT cx cf fuel mask (.loop a)) (loopT a' fuel) := by
  have key : ∀ n, EqR K (loopT (codeT cx cf fuel mask a) n) (loopT a' n) := by
    intro n
    induction n with
    | zero => intro e h _; rfl
    | succ n ih =>
      intro e h hk
      show (bnd (codeT cx cf fuel mask a e h) fun r => three r fun x e' h' => @Ex.rec (fun _ => Out) (loopT (codeT cx cf fuel mask a) n e' h') (fun i => some (.exit i, e', h')) (some (.ret, e', h')) x)
        = bnd (a' e h) fun r => three r fun x e' h' => @Ex.rec (fun _ => Out) (loopT a' n e' h') (fun i => some (.exit i, e', h')) (some (.ret, e', h')) x
      rw [ha e h hk]
      cases hx : a' e h with
      | none => rfl
      | some r =>
        obtain ⟨y, e1, h1⟩ := r
        have hk1 := pres_code (cx := cx) (cf := cf) (fuel := fuel) a hok e h y e1 h1 hk (by rw [ha e h hk]; exact hx)
        simp only [bnd_some, three_mk]
        cases y with
        | normal => exact ih e1 h1 hk1
        | exit i => rfl
        | ret => rfl
  exact key fuel

/-- How a region's term takes its small parts: values; equality; inequality. -/
abbrev RegF := (H → Option T → Option (T × H)) → (H → Bool → Option Bool → Option (T × H)) → (H → Bool → Option Bool → Option (T × H)) → CallF → Env → H → Out

/-- A region that runs in its order. -/
theorem EqR.reg {id : Nat} {ops : Array Oper} (R : RegF)
    (hR : ∀ xs, xs.length = K.length → ∀ h, runK cx cf mask ops ops.toList ⟨mkV K xs, .nil⟩ h (fun e' h' => some (Ex.normal, Env.casesOn e' fun vs _ => ⟨vs, .nil⟩, h')) =
      R (fun h x => fin cf h (val h x)) (fun h n x => fin cf h (chk n (bnd x fun r => val h (rBool r)))) (fun h n x => fin cf h (chk n (bnd x fun r => val h (rBool (!r))))) cf ⟨mkV K xs, .nil⟩ h)
    (htm : ∀ vs tm h, R finV finE finN cf ⟨vs, tm⟩ h = R finV finE finN cf ⟨vs, .nil⟩ h) : EqR K (codeT cx cf fuel mask (.region id ops false)) (R finV finE finN cf) := by
  intro e h hk
  obtain ⟨vars, tmps⟩ := e
  obtain ⟨xs, hl, rfl⟩ := vars_of_keys hk
  rw [htm]
  have h1 := hR xs hl h
  rw [fin_val, fin_eq, fin_ne] at h1
  rw [← h1, ← runK_eq]
  rfl
end
end Go.TI
