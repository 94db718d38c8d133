/- Regions in their order, code, calls. -/
import Derived.Test.YtemkchpdcgkeiaaGreatDoorTiEnv
namespace Go.TI
set_option linter.unusedSimpArgs false
set_option linter.unusedVariables false
set_option linter.unusedVariables false

/-- Behind an operation or a call; and the interpreter's heap has grown. -/
def AfterG (cx : Ctx) (base : Nat) (w : World) (μ : Mu) (h : H) (v : T) (h' : H) (c : Value) (w' : World) : Prop := After cx base w μ h.size v h' c w' ∧ Grow h h'

/-- The interpreter's calls stand for the program's. -/
def CallOk (P : Program) (cx : Ctx) (cf : CallF) : Prop :=
  ∀ f args h r h', cf f args h = some (r, h') → ∀ base w μ (cargs : Array Value), St cx base w.heap μ h → RelL w.heap μ args cargs.toList → Ran P (AfterG cx base w μ h r h') ((callFunc f cargs).run P w)

/-- The interpreter's slots and heap stand for a frame and a world that came from w0. -/
def Here (cx : Ctx) (base mask m : Nat) (w0 : World) (μ0 : Mu) (h0 : H) (e : Env) (h : H) (a : Act) (w : World) : Prop :=
  ∃ μ, St cx base w.heap μ h ∧ RelE w.heap μ mask e a.tmps ∧ ExtW w0 μ0 w μ ∧ Dom μ0 μ h0.size h.size ∧ Grow h0 h ∧ a.tmps.size = m ∧ a.defers = []

section
variable {P : Program} {cx : Ctx} {cf : CallF} {base mask m : Nat} {w0 w : World} {μ0 : Mu} {h0 h h' : H} {e e' : Env} {a : Act} {ops : Array Oper} {Q : Exit → Act → World → Prop}

/-- Every slot that a region sets is there. -/
def DstOk (m : Nat) (ops : Array Oper) : Prop := ∀ (j : Nat) (p : Oper) s, ops[j]? = some p → p.dst = some s → s < m

theorem Here.after (H : Here cx base mask m w0 μ0 h0 e h a w) {d : Option Tmp} (hd : ∀ s, d = some s → s < m) {v : T} (hset : e.dst mask d v = some e')
    {R : Result Next} (hr : ∀ base μ, St cx base w.heap μ h → RelE w.heap μ mask e a.tmps → Ran P (AfterG cx base w μ h v h') R) : Ran P (fun c w' => Here cx base mask m w0 μ0 h0 e' h' (a.put d c) w') R := by
  obtain ⟨μ, s, r, x, dm, g, hm, hdf⟩ := H
  refine (hr base μ s r).mono fun c w' hc => ?_
  obtain ⟨⟨μ', k1, k2, k3, k4⟩, k5⟩ := hc
  refine ⟨μ', k2, ?_, x.trans k3, dm.trans (hp := w.heap) k4 k3.ext, g.trans k5, by rw [Act.put_size]; exact hm, by rw [Act.put_defs]; exact hdf⟩
  exact RelE.put (r.ext k3.ext) k1 (fun s hs => by rw [hm]; exact hd s hs) hset

theorem step_sound (tys : TysOk P cx) (ck : CallOk P cx cf) {i : Nat} {o : Oper} (hi : ops[i]? = some o) (hd : DstOk m ops) (hh : stepOp cx cf mask ops e h o = some (e', h'))
    (H : Here cx base mask m w0 μ0 h0 e h a w) {K : Act → World → Prop} (hK : ∀ a' w', Here cx base mask m w0 μ0 h0 e' h' a' w' → K a' w') : wpOp P ops Q i K a w := by
  have H' := H
  obtain ⟨μ, s, r, x, dm, g, hm, hdf⟩ := H'
  unfold wpOp
  simp only [hi]
  replace hh := bnd_eq_some.1 hh; obtain ⟨want, hw, hh⟩ := hh
  have hwant := want_sound r (fun j p s hj hs => by rw [hm]; exact hd j p s hj hs) hw
  cases want with
  | false =>
    have hh : (bnd (e.dst mask o.dst .undef) fun e' => some (e', h)) = some (e', h') := hh
    replace hh := bnd_eq_some.1 hh; obtain ⟨e1, he1, hh⟩ := hh
    simp only [Option.some.injEq, Prod.mk.injEq] at hh
    obtain ⟨rfl, rfl⟩ := hh
    simp only [hwant, Bool.false_eq_true, if_false]
    refine hK _ _ ⟨μ, s, RelE.put r .undef (fun s hs => by rw [hm]; exact hd i o s hi hs) he1, x, dm, g, by rw [Act.put_size]; exact hm, by rw [Act.put_defs]; exact hdf⟩
  | true =>
    simp only [hwant, if_true]
    left
    have hh : (bnd (opH o.op cx mask e h) fun d => @Did.rec (fun _ => Option (Env × TI.H))
      (fun v h' => bnd (e.dst mask o.dst v) fun e' => some (e', h'))
      (fun f args => bnd (cf f args h) fun r => two r fun v h' => bnd (e.dst mask o.dst v) fun e' => some (e', h')) d) = some (e', h') := hh
    replace hh := bnd_eq_some.1 hh; obtain ⟨d, hop, hh⟩ := hh
    cases d with
    | val v h1 =>
      have hh : (bnd (e.dst mask o.dst v) fun e' => some (e', h1)) = some (e', h') := hh
      replace hh := bnd_eq_some.1 hh; obtain ⟨e1, he1, hh⟩ := hh
      simp only [Option.some.injEq, Prod.mk.injEq] at hh
      obtain ⟨rfl, rfl⟩ := hh
      refine Ran.wp (H.after (fun s hs => hd i o s hi hs) he1 (h' := h1) fun base μ s r => ?_) (fun c w' hc => hK _ _ hc)
      exact ((opH_val tys s r hop).ran).mono fun c w' hc => ⟨hc, mv_opH s.wf v h1 hop⟩
    | «call» f args =>
      have hh : (bnd (cf f args h) fun r => two r fun v h' => bnd (e.dst mask o.dst v) fun e' => some (e', h')) = some (e', h') := hh
      replace hh := bnd_eq_some.1 hh; obtain ⟨⟨v, h1⟩, hcall, hh⟩ := hh
      simp only [two_mk] at hh
      replace hh := bnd_eq_some.1 hh; obtain ⟨e1, he1, hh⟩ := hh
      simp only [Option.some.injEq, Prod.mk.injEq] at hh
      obtain ⟨rfl, rfl⟩ := hh
      refine Ran.wp (H.after (fun s hs => hd i o s hi hs) he1 (h' := h1) fun base μ s r => ?_) (fun c w' hc => hK _ _ hc)
      obtain ⟨_, cargs, hL, hrun⟩ := opH_call (P := P) s r hop
      rw [hrun]
      exact ck f args h v h1 hcall base w μ cargs s hL

theorem runOps_sound (tys : TysOk P cx) (ck : CallOk P cx cf) (hd : DstOk m ops) : ∀ (l : List Oper) (k : Nat) (e : Env) (h : H) (a : Act) (w : World), (∀ j, l[j]? = ops[k + j]?) →
    runOps cx cf mask ops l e h = some (e', h') → Here cx base mask m w0 μ0 h0 e h a w → (∀ a' w', Here cx base mask m w0 μ0 h0 e' h' a' w' → Q .normal a' w') → wpOps P ops Q (List.range' k l.length) a w := by
  intro l
  induction l with
  | nil =>
    intro k e h a w _ hh H hQ
    have hh : some (e, h) = some (e', h') := hh
    simp only [Option.some.injEq, Prod.mk.injEq] at hh
    obtain ⟨rfl, rfl⟩ := hh
    exact hQ a w H
  | cons o l ih =>
    intro k e h a w hl hh H hQ
    have hh : (bnd (stepOp cx cf mask ops e h o) fun p => two p fun e' h' => runOps cx cf mask ops l e' h') = some (e', h') := hh
    replace hh := bnd_eq_some.1 hh; obtain ⟨⟨e1, h1⟩, hs, hh⟩ := hh
    simp only [two_mk] at hh
    simp only [List.length_cons, List.range'_succ]
    rw [wpOps_cons]
    have hk : ops[k]? = some o := by have := hl 0; simpa using this.symm
    refine step_sound tys ck hk hd hs H fun a' w' H' => ih (k + 1) e1 h1 a' w' (fun j => ?_) hh H' hQ
    have := hl (j + 1)
    simp only [List.getElem?_cons_succ] at this
    rw [this]; congr 1; omega

/-! ### code -/

def dstB (m : Nat) (ops : Array Oper) : Bool := ops.toList.all fun o => match o.dst with | some s => Nat.blt s m | none => true

theorem dstB_ok (hb : dstB m ops = true) : DstOk m ops := by
  intro j p s hj hs
  unfold dstB at hb
  rw [List.all_eq_true] at hb
  have := hb p (by simpa using Array.mem_of_getElem? hj)
  rw [hs] at this
  simpa [Nat.blt_eq] using this

/-- What is asked of a function's code, once for all its calls. -/
def okCode (m : Nat) (drawB : Array Oper → Bool) : Code → Bool
  | .region _ ops draw => dstB m ops && (!draw || drawB ops)
  | .seq a b => okCode m drawB a && okCode m drawB b
  | .cond _ a b => okCode m drawB a && okCode m drawB b
  | .block _ b => okCode m drawB b
  | .loop b => okCode m drawB b
  | _ => true

def exOf : Ex → Exit
  | .normal => .normal
  | .exit i => .exit i
  | .ret => .ret

/-- Regions that draw their order. -/
def DrawOk (P : Program) (cx : Ctx) (cf : CallF) (drawB : Array Oper → Bool) : Prop :=
  ∀ (base mask m : Nat) (w0 : World) (μ0 : Mu) (h0 : H) (ops : Array Oper) (e e' : Env) (h h' : H) (a : Act) (w : World) (Q : Exit → Act → World → Prop) (id : Nat), drawB ops = true → DstOk m ops →
    runDraw cx cf mask ops ops.toList 0 ⟨[], []⟩ e h = some (e', h') → Here cx base mask m w0 μ0 h0 e h a w → (∀ a' w', Here cx base mask m w0 μ0 h0 e' h' a' w' → Q .normal a' w') → (Code.region id ops true).wp P Q a w

theorem Here.drop (H : Here cx base mask m w0 μ0 h0 e h a w) : Here cx base mask m w0 μ0 h0 ⟨e.vars, .nil⟩ h a w := by
  obtain ⟨μ, s, r, x, dm, g, hm, hdf⟩ := H
  refine ⟨μ, s, fun s' v hv => r s' v ?_, x, dm, g, hm, hdf⟩
  obtain ⟨vars, tmps⟩ := e
  have hv : @Bool.rec (fun _ => Option T) (look .nil s') (look vars s') (lasts mask s') = some v := hv
  show @Bool.rec (fun _ => Option T) (look tmps s') (look vars s') (lasts mask s') = some v
  cases hl : lasts mask s' with
  | true => rw [hl] at hv; exact hv
  | false => rw [hl] at hv; simp [look] at hv

/-- A loop's rounds to come. -/
def wpL (P : Program) (c : Code) (Q : Exit → Act → World → Prop) (a : Act) (w : World) : Prop :=
  ∀ (b : Frame) (k : List Item) (cs : List Frame), ∃ e a' w', Q e a' w' ∧ Arrives P (lone (b.at a (.code c :: .inLoop c :: k)) cs w) b k cs e a' w'

theorem wpL_round {c : Code} (h : c.wp P (Exit.then (wpL P c Q) Q) a w) : wpL P c Q a w := by
  intro b k cs
  obtain ⟨e, a₁, w₁, hq, harr⟩ := h b (.inLoop c :: k) cs
  cases e with
  | normal =>
    obtain ⟨e₂, a₂, w₂, hq₂, harr₂⟩ := hq b k cs
    exact ⟨e₂, a₂, w₂, hq₂, .of_steps (Steps.trans harr (.one step_inLoop)) harr₂⟩
  | exit id => exact ⟨_, a₁, w₁, hq, .pass (x := .inLoop c) rfl (fun _ _ => .inl (by simp)) harr⟩
  | goto l => exact ⟨_, a₁, w₁, hq, .pass (x := .inLoop c) rfl (fun _ _ => .inl (by simp)) harr⟩
  | ret => exact ⟨_, a₁, w₁, hq, .pass (x := .inLoop c) rfl (fun _ _ => .inl (by simp)) harr⟩
  | panic ch => exact ⟨_, a₁, w₁, hq, .pass (x := .inLoop c) rfl (fun _ _ => .inl (by simp)) harr⟩
  | outgrown => exact ⟨_, a₁, w₁, hq, .pass (x := .inLoop c) rfl (fun _ _ => .inl (by simp)) harr⟩

theorem wp_of_wpL {c : Code} (h : wpL P c Q a w) : (Code.loop c).wp P Q a w := by
  intro b k cs
  obtain ⟨e, a', w', hq, harr⟩ := h b k cs
  exact ⟨e, a', w', hq, .of_steps (.one step_loop) harr⟩

/-- What code comes to. -/
def Runs (P : Program) (cx : Ctx) (base mask m : Nat) (w0 : World) (μ0 : Mu) (h0 : H) (c : Code) (f : Env → H → Out) : Prop :=
  ∀ e h x e' h', f e h = some (x, e', h') → ∀ a w Q, Here cx base mask m w0 μ0 h0 e h a w → (∀ a' w', Here cx base mask m w0 μ0 h0 e' h' a' w' → Q (exOf x) a' w') → c.wp P Q a w

theorem loop_sound {c : Code} {f : Env → H → Out} (hf : Runs P cx base mask m w0 μ0 h0 c f) : ∀ (n : Nat) (e : Env) (h : H) (x : Ex) (e' : Env) (h' : H), loopT f n e h = some (x, e', h') →
    ∀ a w Q, Here cx base mask m w0 μ0 h0 e h a w → (∀ a' w', Here cx base mask m w0 μ0 h0 e' h' a' w' → Q (exOf x) a' w') → wpL P c Q a w := by
  intro n
  induction n with
  | zero => intro e h x e' h' hh; simp [loopT] at hh
  | succ n ih =>
    intro e h x e' h' hh a w Q H hQ
    have hh : (bnd (f e h) fun r => three r fun x e' h' => @Ex.rec (fun _ => Out) (loopT f n e' h') (fun i => some (.exit i, e', h')) (some (.ret, e', h')) x) = some (x, e', h') := hh
    replace hh := bnd_eq_some.1 hh; obtain ⟨⟨y, e1, h1⟩, hb, hh⟩ := hh
    refine wpL_round (hf e h y e1 h1 hb a w _ H fun a' w' H' => ?_)
    cases y with
    | normal =>
      have hh : loopT f n e1 h1 = some (x, e', h') := hh
      exact ih e1 h1 x e' h' hh a' w' Q H' hQ
    | exit i =>
      have hh : some (Ex.exit i, e1, h1) = some (x, e', h') := hh
      simp only [Option.some.injEq, Prod.mk.injEq] at hh
      obtain ⟨rfl, rfl, rfl⟩ := hh
      exact hQ a' w' H'
    | ret =>
      have hh : some (Ex.ret, e1, h1) = some (x, e', h') := hh
      simp only [Option.some.injEq, Prod.mk.injEq] at hh
      obtain ⟨rfl, rfl, rfl⟩ := hh
      exact hQ a' w' H'

theorem code_sound (tys : TysOk P cx) (ck : CallOk P cx cf) {drawB : Array Oper → Bool} (dk : DrawOk P cx cf drawB) (fuel : Nat) : ∀ (c : Code), okCode m drawB c = true → Runs P cx base mask m w0 μ0 h0 c (codeT cx cf fuel mask c) := by
  intro c
  induction c with
  | skip =>
    intro _ e h x e' h' hh a w Q H hQ
    have hh : some (Ex.normal, e, h) = some (x, e', h') := hh
    simp only [Option.some.injEq, Prod.mk.injEq] at hh
    obtain ⟨rfl, rfl, rfl⟩ := hh
    exact wp_skip (hQ a w H)
  | exit id =>
    intro _ e h x e' h' hh a w Q H hQ
    have hh : some (Ex.exit id, e, h) = some (x, e', h') := hh
    simp only [Option.some.injEq, Prod.mk.injEq] at hh
    obtain ⟨rfl, rfl, rfl⟩ := hh
    exact wp_exit (hQ a w H)
  | ret =>
    intro _ e h x e' h' hh a w Q H hQ
    have hh : some (Ex.ret, e, h) = some (x, e', h') := hh
    simp only [Option.some.injEq, Prod.mk.injEq] at hh
    obtain ⟨rfl, rfl, rfl⟩ := hh
    exact wp_ret (hQ a w H)
  | region id ops draw =>
    intro ok e h x e' h' hh a w Q H hQ
    simp only [okCode, Bool.and_eq_true] at ok
    have hd := dstB_ok ok.1
    have H' := H.drop
    obtain ⟨vars, tmps⟩ := e
    cases draw with
    | false =>
      have hh : (bnd (runOps cx cf mask ops ops.toList ⟨vars, .nil⟩ h) fun r => two r fun e' h' => some (Ex.normal, (⟨e'.vars, .nil⟩ : Env), h')) = some (x, e', h') := hh
      replace hh := bnd_eq_some.1 hh; obtain ⟨⟨e1, h1⟩, hb, hh⟩ := hh
      simp only [two_mk, Option.some.injEq, Prod.mk.injEq] at hh
      obtain ⟨rfl, rfl, rfl⟩ := hh
      refine wp_region ?_
      rw [List.range_eq_range']
      have := runOps_sound (Q := Q) tys ck hd ops.toList 0 ⟨vars, .nil⟩ h a w (fun j => by simp) hb H' fun a' w' H1 => hQ a' w' H1.drop
      simpa using this
    | true =>
      have hh : (bnd (runDraw cx cf mask ops ops.toList 0 ⟨[], []⟩ ⟨vars, .nil⟩ h) fun r => two r fun e' h' => some (Ex.normal, (⟨e'.vars, .nil⟩ : Env), h')) = some (x, e', h') := hh
      replace hh := bnd_eq_some.1 hh; obtain ⟨⟨e1, h1⟩, hb, hh⟩ := hh
      simp only [two_mk, Option.some.injEq, Prod.mk.injEq] at hh
      obtain ⟨rfl, rfl, rfl⟩ := hh
      exact dk base mask m w0 μ0 h0 ops _ _ h h1 a w Q id (by simpa using ok.2) hd hb H' fun a' w' H1 => hQ a' w' H1.drop
  | seq c1 c2 ih1 ih2 =>
    intro ok e h x e' h' hh a w Q H hQ
    simp only [okCode, Bool.and_eq_true] at ok
    have hh : (bnd (codeT cx cf fuel mask c1 e h) fun r => three r fun x e' h' => @Ex.rec (fun _ => Out) (codeT cx cf fuel mask c2 e' h') (fun i => some (.exit i, e', h')) (some (.ret, e', h')) x) = some (x, e', h') := hh
    replace hh := bnd_eq_some.1 hh; obtain ⟨⟨y, e1, h1⟩, hb, hh⟩ := hh
    refine wp_seq (ih1 ok.1 e h y e1 h1 hb a w _ H fun a' w' H' => ?_)
    cases y with
    | normal => exact ih2 ok.2 e1 h1 x e' h' hh a' w' Q H' hQ
    | exit i =>
      have hh : some (Ex.exit i, e1, h1) = some (x, e', h') := hh
      simp only [Option.some.injEq, Prod.mk.injEq] at hh
      obtain ⟨rfl, rfl, rfl⟩ := hh
      exact hQ a' w' H'
    | ret =>
      have hh : some (Ex.ret, e1, h1) = some (x, e', h') := hh
      simp only [Option.some.injEq, Prod.mk.injEq] at hh
      obtain ⟨rfl, rfl, rfl⟩ := hh
      exact hQ a' w' H'
  | cond o c1 c2 ih1 ih2 =>
    intro ok e h x e' h' hh a w Q H hQ
    simp only [okCode, Bool.and_eq_true] at ok
    have hh : (bnd (opnd cx mask e o) fun v => match v with
      | .bool t => @Bool.rec (fun _ => Out) (codeT cx cf fuel mask c2 e h) (codeT cx cf fuel mask c1 e h) t
      | _ => none) = some (x, e', h') := hh
    replace hh := bnd_eq_some.1 hh; obtain ⟨v, hv, hh⟩ := hh
    cases v <;> simp only [reduceCtorEq] at hh
    rename_i t
    have hc : a.eval o = .bool t := by
      obtain ⟨μ, s, r, _⟩ := H
      exact (opnd_sound s r hv).inv_bool
    cases t with
    | true => exact wp_cond_true hc (ih1 ok.1 e h x e' h' hh a w Q H hQ)
    | false => exact wp_cond_false hc (ih2 ok.2 e h x e' h' hh a w Q H hQ)
  | block id c1 ih =>
    intro ok e h x e' h' hh a w Q H hQ
    have hh : (bnd (codeT cx cf fuel mask c1 e h) fun r => three r fun x e' h' => @Ex.rec (fun _ => Out) (some (.normal, e', h')) (fun i => @Bool.rec (fun _ => Out) (some (.exit i, e', h')) (some (.normal, e', h')) (Nat.beq i id)) (some (.ret, e', h')) x) = some (x, e', h') := hh
    replace hh := bnd_eq_some.1 hh; obtain ⟨⟨y, e1, h1⟩, hb, hh⟩ := hh
    refine wp_block (ih ok e h y e1 h1 hb a w _ H fun a' w' H' => ?_)
    cases y with
    | normal =>
      have hh : some (Ex.normal, e1, h1) = some (x, e', h') := hh
      simp only [Option.some.injEq, Prod.mk.injEq] at hh
      obtain ⟨rfl, rfl, rfl⟩ := hh
      exact hQ a' w' H'
    | exit i =>
      have hh : @Bool.rec (fun _ => Out) (some (.exit i, e1, h1)) (some (.normal, e1, h1)) (Nat.beq i id) = some (x, e', h') := hh
      show (if i = id then Q .normal a' w' else Q (.exit i) a' w')
      cases hbq : Nat.beq i id with
      | true =>
        rw [hbq] at hh
        simp only [Option.some.injEq, Prod.mk.injEq] at hh
        obtain ⟨rfl, rfl, rfl⟩ := hh
        rw [if_pos (Nat.eq_of_beq_eq_true hbq)]
        exact hQ a' w' H'
      | false =>
        rw [hbq] at hh
        simp only [Option.some.injEq, Prod.mk.injEq] at hh
        obtain ⟨rfl, rfl, rfl⟩ := hh
        rw [if_neg (Nat.ne_of_beq_eq_false hbq)]
        exact hQ a' w' H'
    | ret =>
      have hh : some (Ex.ret, e1, h1) = some (x, e', h') := hh
      simp only [Option.some.injEq, Prod.mk.injEq] at hh
      obtain ⟨rfl, rfl, rfl⟩ := hh
      exact hQ a' w' H'
  | loop c1 ih =>
    intro ok e h x e' h' hh a w Q H hQ
    exact wp_of_wpL (loop_sound (ih ok) fuel e h x e' h' hh a w Q H hQ)
  | _ => intro _ e h x e' h' hh; exact absurd hh (by simp [codeT])
end
end Go.TI
