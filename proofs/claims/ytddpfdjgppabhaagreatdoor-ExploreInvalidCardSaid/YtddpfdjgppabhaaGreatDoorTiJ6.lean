/- The interpreter of trees, part 6 of 8: TiDeep TiWalk TiSpec TiCallT TiFz. -/
import Derived.Test.YtddpfdjgppabhaaGreatDoorTiJ5
set_option linter.unusedSimpArgs false
set_option linter.unusedVariables false
/- Walks over the functions' own code: regions by their operations. -/
namespace Go.TI
set_option linter.unusedVariables false
set_option linter.unusedSimpArgs false

/-! ### draws: what stands in no order is looked at -/
def inCp (cp : List (Nat × Nat)) (i j : Nat) : Bool := cp.any fun p => p.1 == i && p.2 == j
def fromCp (cp : List (Nat × Nat)) (i : Nat) : Bool := cp.any fun p => p.1 == i
theorem fromCp_of {cp : List (Nat × Nat)} {i j : Nat} (h : inCp cp i j = true) : fromCp cp i = true := by
  unfold inCp at h; unfold fromCp
  rw [List.any_eq_true] at h ⊢
  obtain ⟨p, hp, h⟩ := h
  exact ⟨p, hp, by simp at h; simp [h.1]⟩
/-- Whatever looks at a box and whatever changes one stand in an order, or are named. -/
def cpOk (cp : List (Nat × Nat)) (ops : Array Oper) : Bool :=
  let bs := befs ops.toList []
  let os := ops.toList.zipIdx
  os.all fun y => os.all fun x => !Nat.blt x.2 y.2 || !((lookK x.1.op && isEff y.1.op) || (isEff x.1.op && (lookK y.1.op || isEff y.1.op))) || (bs.getD y.2 0).testBit x.2 || inCp cp x.2 y.2
theorem cpOk_pairs {cp : List (Nat × Nat)} {ops : Array Oper} (hb : cpOk cp ops = true) {i j : Nat} {oi oj : Oper} (hi : ops[i]? = some oi) (hj : ops[j]? = some oj) (hij : i < j)
    (hk : (lookK oi.op = true ∧ isEff oj.op = true) ∨ (isEff oi.op = true ∧ (lookK oj.op = true ∨ isEff oj.op = true))) : ordered ops i j = true ∨ inCp cp i j = true := by
  unfold cpOk at hb
  have h1 := List.all_eq_true.1 hb (oj, j) (mem_zipIdx hj)
  have h2 := List.all_eq_true.1 h1 (oi, i) (mem_zipIdx hi)
  have h3 : Nat.blt i j = true := by rw [Nat.blt_eq]; exact hij
  simp only [h3, Bool.not_true, Bool.false_or, Bool.or_eq_true, Bool.not_eq_true'] at h2
  rcases h2 with (h2 | h2) | h2
  · exfalso
    rcases hk with ⟨k1, k2⟩ | ⟨k1, k2 | k2⟩ <;> simp [k1, k2] at h2
  · exact .inl h2
  · exact .inr h2
/-- A look at box b, as operation i. -/
def lookCk (cp : List (Nat × Nat)) (i b : Nat) (ef : List (Nat × H × H)) : Prop := ∀ p ∈ ef, inCp cp p.1 i = true → sameVer p.2.1 p.2.2 b = true
/-- A change, as operation i. -/
def effCk (cp : List (Nat × Nat)) (i : Nat) (h h' : H) (lo : List (Nat × Nat)) : Prop := ∀ p ∈ lo, inCp cp p.1 i = true → sameVer h h' p.2 = true
@[simp] theorem lookCk_nil (cp : List (Nat × Nat)) (i b : Nat) : lookCk cp i b [] = True := by simp [lookCk]
@[simp] theorem lookCk_cons (cp : List (Nat × Nat)) (i b j : Nat) (h h' : H) (ef : List (Nat × H × H)) : lookCk cp i b ((j, h, h') :: ef) = ((inCp cp j i = true → sameVer h h' b = true) ∧ lookCk cp i b ef) := by simp [lookCk]
@[simp] theorem effCk_nil (cp : List (Nat × Nat)) (i : Nat) (h h' : H) : effCk cp i h h' [] = True := by simp [effCk]
@[simp] theorem effCk_cons (cp : List (Nat × Nat)) (i j b : Nat) (h h' : H) (lo : List (Nat × Nat)) : effCk cp i h h' ((j, b) :: lo) = ((inCp cp j i = true → sameVer h h' b = true) ∧ effCk cp i h h' lo) := by simp [effCk]
open Classical in
noncomputable def runDC (cx : Ctx) (cf : CallF) (mask : Nat) (ops : Array Oper) (cp : List (Nat × Nat)) : List Oper → Nat → List (Nat × Nat) → List (Nat × H × H) → Env → H → Option (Env × H)
  | [], _, _, _, e, h => some (e, h)
  | o :: l, i, lo, ef, e, h => bnd (stepOp cx cf mask ops e h o) fun p => two p fun e' h' =>
      bnd (wantT ops mask e o.guard) fun want =>
        if want = true then
          if isEff o.op = true then
            if effCk cp i h h' lo ∧ (∀ t x v b, o.op = .store t x v → bnd (opnd cx mask e x) boxOf = some b → lookCk cp i b ef) then
              runDC cx cf mask ops cp l (i + 1) lo (if fromCp cp i = true then (i, h, h') :: ef else ef) e' h' else none
          else match looksBox cx mask e h o.op with
            | none => runDC cx cf mask ops cp l (i + 1) lo ef e' h'
            | some b => if lookCk cp i b ef then runDC cx cf mask ops cp l (i + 1) (if fromCp cp i = true then (i, b) :: lo else lo) ef e' h' else none
        else runDC cx cf mask ops cp l (i + 1) lo ef e' h'
section
variable {cx : Ctx} {cf : CallF} {n mask : Nat}
theorem runDC_sound {cp : List (Nat × Nat)} {ops : Array Oper} (hc : cpOk cp ops = true) : ∀ (l : List Oper) (i : Nat) (lo : List (Nat × Nat)) (ef : List (Nat × H × H)) (s : Seen) (e : Env) (h : H) (r : Env × H), (∀ t, l[t]? = ops[i + t]?) →
    (∀ p ∈ s.loads, p.1 < i ∧ (∃ o, ops[p.1]? = some o ∧ lookK o.op = true) ∧ (fromCp cp p.1 = true → p ∈ lo)) →
    (∀ p ∈ s.effs, p.1 < i ∧ (∃ o, ops[p.1]? = some o ∧ isEff o.op = true) ∧ (fromCp cp p.1 = true → p ∈ ef)) →
    runDC cx cf mask ops cp l i lo ef e h = some r → runDraw cx cf mask ops l i s e h = some r := by
  intro l
  induction l with
  | nil => intro i lo ef s e h r _ _ _ hh; exact hh
  | cons o l ih =>
    intro i lo ef s e h r hl hlo hef hh
    have hi : ops[i]? = some o := by have := hl 0; simpa using this.symm
    have hl' : ∀ t, l[t]? = ops[i + 1 + t]? := fun t => by
      have := hl (t + 1)
      simp only [List.getElem?_cons_succ] at this
      rw [this]; congr 1; omega
    show (bnd (stepOp cx cf mask ops e h o) fun p => two p fun e1 h1 =>
      bnd (wantT ops mask e o.guard) fun want => @Bool.rec (fun _ => Option (Env × H)) (runDraw cx cf mask ops l (i + 1) s e1 h1)
        (@Bool.rec (fun _ => Option (Env × H))
          (@Option.rec Nat (fun _ => Option (Env × H)) (runDraw cx cf mask ops l (i + 1) s e1 h1)
            (fun b => chk (loadOk ops i b s.effs) (runDraw cx cf mask ops l (i + 1) ⟨(i, b) :: s.loads, s.effs⟩ e1 h1)) (looksBox cx mask e h o.op))
          (chk (effOk ops i h h1 s.loads) (chk (storeOk cx mask ops i e s.effs o.op) (runDraw cx cf mask ops l (i + 1) ⟨s.loads, (i, h, h1) :: s.effs⟩ e1 h1))) (isEff o.op)) want) = some r
    unfold runDC at hh
    obtain ⟨⟨e1, h1⟩, hst, hh⟩ := bnd_eq_some.1 hh
    simp only [two_mk] at hh
    obtain ⟨w, hw, hh⟩ := bnd_eq_some.1 hh
    rw [hst, bnd_some, two_mk, hw, bnd_some]
    have hlo' : ∀ p ∈ s.loads, p.1 < i + 1 ∧ (∃ o, ops[p.1]? = some o ∧ lookK o.op = true) ∧ (fromCp cp p.1 = true → p ∈ lo) := fun p hp => ⟨by have := (hlo p hp).1; omega, (hlo p hp).2⟩
    have hef' : ∀ p ∈ s.effs, p.1 < i + 1 ∧ (∃ o, ops[p.1]? = some o ∧ isEff o.op = true) ∧ (fromCp cp p.1 = true → p ∈ ef) := fun p hp => ⟨by have := (hef p hp).1; omega, (hef p hp).2⟩
    have lk : ∀ b, (lookK o.op = true ∨ isEff o.op = true) → lookCk cp i b ef → loadOk ops i b s.effs = true := by
      intro b hk hck
      unfold loadOk
      rw [allB_eq, List.all_eq_true]
      intro p hp
      obtain ⟨k1, ⟨o', k2, k3⟩, k4⟩ := hef p hp
      show @Bool.rec (fun _ => Bool) (ordered ops p.1 i) true (sameVer p.2.1 p.2.2 b) = true
      rcases cpOk_pairs hc k2 hi k1 (.inr ⟨k3, hk⟩) with ho | hi'
      · rw [ho]; cases sameVer p.2.1 p.2.2 b <;> rfl
      · rw [hck p (k4 (fromCp_of hi')) hi']
    cases w with
    | false => simp only [Bool.false_eq_true, if_false] at hh; exact ih (i + 1) lo ef s e1 h1 r hl' hlo' hef' hh
    | true =>
      simp only [if_true] at hh
      cases he : isEff o.op with
      | true =>
        rw [he] at hh
        simp only [if_true] at hh
        split at hh
        · rename_i hck
          have e1k : effOk ops i h h1 s.loads = true := by
            unfold effOk
            rw [allB_eq, List.all_eq_true]
            intro p hp
            obtain ⟨k1, ⟨o', k2, k3⟩, k4⟩ := hlo p hp
            show @Bool.rec (fun _ => Bool) (ordered ops p.1 i) true (sameVer h h1 p.2) = true
            rcases cpOk_pairs hc k2 hi k1 (.inl ⟨k3, he⟩) with ho | hi'
            · rw [ho]; cases sameVer h h1 p.2 <;> rfl
            · rw [hck.1 p (k4 (fromCp_of hi')) hi']
          have e2k : storeOk cx mask ops i e s.effs o.op = true := by
            unfold storeOk
            split
            · rename_i t x v hop
              cases hbx : bnd (opnd cx mask e x) boxOf with
              | none => rfl
              | some b => exact lk b (.inr he) (hck.2 t x v b hop hbx)
            · rfl
          simp only [e1k, e2k, chk_true]
          refine ih (i + 1) _ _ _ e1 h1 r hl' hlo' (fun p hp => ?_) hh
          rcases List.mem_cons.1 hp with rfl | hp
          · refine ⟨by simp, ⟨o, hi, he⟩, fun hf => ?_⟩
            simp only at hf
            rw [if_pos hf]; exact List.mem_cons_self ..
          · obtain ⟨k1, k2, k3⟩ := hef' p hp
            refine ⟨k1, k2, fun hf => ?_⟩
            split
            · exact List.mem_cons_of_mem _ (k3 hf)
            · exact k3 hf
        · simp at hh
      | false =>
        rw [he] at hh
        simp only [Bool.false_eq_true, if_false] at hh
        simp only
        cases hb : looksBox cx mask e h o.op with
        | none => rw [hb] at hh; exact ih (i + 1) lo ef s e1 h1 r hl' hlo' hef' hh
        | some b =>
          rw [hb] at hh
          simp only at hh
          split at hh
          · rename_i hck
            have hlk := lookK_of hb
            simp only [lk b (.inl hlk) hck, chk_true]
            refine ih (i + 1) _ _ _ e1 h1 r hl' (fun p hp => ?_) hef' hh
            rcases List.mem_cons.1 hp with rfl | hp
            · refine ⟨by simp, ⟨o, hi, hlk⟩, fun hf => ?_⟩
              simp only at hf
              rw [if_pos hf]; exact List.mem_cons_self ..
            · obtain ⟨k1, k2, k3⟩ := hlo' p hp
              refine ⟨k1, k2, fun hf => ?_⟩
              split
              · exact List.mem_cons_of_mem _ (k3 hf)
              · exact k3 hf
          · simp at hh

/-! ### the code, walked -/
abbrev DL := List (Nat × List (Nat × Nat))
noncomputable def regD (cx : Ctx) (cf : CallF) (mask : Nat) (dl : DL) (id : Nat) (ops : Array Oper) (e : Env) (h : H) : Out :=
  match dl.lookup id with
  | none => bnd (runOps cx cf mask ops ops.toList ⟨e.vars, .nil⟩ h) fun r => two r fun e' h' => some (.normal, ⟨e'.vars, .nil⟩, h')
  | some cp => bnd (runDC cx cf mask ops cp ops.toList 0 [] [] ⟨e.vars, .nil⟩ h) fun r => two r fun e' h' => some (.normal, ⟨e'.vars, .nil⟩, h')
noncomputable def codeD (cx : Ctx) (cf : CallF) (fuel mask : Nat) (dl : DL) : Code → Env → H → Out
  | .skip => fun e h => some (.normal, e, h)
  | .region id ops _ => regD cx cf mask dl id ops
  | .seq a b => seqT (codeD cx cf fuel mask dl a) (codeD cx cf fuel mask dl b)
  | .cond c a b => condT cx mask c (codeD cx cf fuel mask dl a) (codeD cx cf fuel mask dl b)
  | .block id b => blockT id (codeD cx cf fuel mask dl b)
  | .loop b => loopT (codeD cx cf fuel mask dl b) fuel
  | .exit id => fun e h => some (.exit id, e, h)
  | .ret => fun e h => some (.ret, e, h)
  | _ => fun _ _ => none
def drawsOk (dl : DL) : Code → Bool
  | .region id ops d => (match dl.lookup id with | none => !d || statB ops | some cp => d && cpOk cp ops)
  | .seq a b => drawsOk dl a && drawsOk dl b
  | .cond _ a b => drawsOk dl a && drawsOk dl b
  | .block _ a => drawsOk dl a
  | .loop a => drawsOk dl a
  | _ => true
theorem codeD_sound {dl : DL} : ∀ (c : Code), drawsOk dl c = true → ∀ e h r, codeD cx cf n mask dl c e h = some r → codeT cx cf n mask c e h = some r := by
  intro c
  induction c with
  | region id ops d =>
    intro hd e h r hh
    obtain ⟨vars, tmps⟩ := e
    replace hh : regD cx cf mask dl id ops ⟨vars, tmps⟩ h = some r := hh
    unfold regD at hh
    simp only [drawsOk] at hd
    cases hl : dl.lookup id with
    | none =>
      rw [hl] at hh hd
      simp only at hh hd
      cases d with
      | false => exact hh
      | true =>
        simp only [Bool.not_true, Bool.false_or] at hd
        show (bnd (runDraw cx cf mask ops ops.toList 0 ⟨[], []⟩ ⟨vars, .nil⟩ h) fun r => two r fun e' h' => some (Ex.normal, (⟨e'.vars, .nil⟩ : Env), h')) = some r
        rw [runDraw_stat hd ops.toList 0 ⟨[], []⟩ ⟨vars, .nil⟩ h (fun t => by simp) (fun p hp => by simp at hp) (fun p hp => by simp at hp)]
        exact hh
    | some cp =>
      rw [hl] at hh hd
      simp only [Bool.and_eq_true] at hh hd
      obtain ⟨rfl, hd⟩ := hd
      obtain ⟨p, hp, hh⟩ := bnd_eq_some.1 hh
      show (bnd (runDraw cx cf mask ops ops.toList 0 ⟨[], []⟩ ⟨vars, .nil⟩ h) fun r => two r fun e' h' => some (Ex.normal, (⟨e'.vars, .nil⟩ : Env), h')) = some r
      rw [runDC_sound hd ops.toList 0 [] [] ⟨[], []⟩ ⟨vars, .nil⟩ h p (fun t => by simp) (fun p hp => by simp at hp) (fun p hp => by simp at hp) hp, bnd_some]
      exact hh
  | seq a b iha ihb =>
    intro hd e h r hh
    simp only [drawsOk, Bool.and_eq_true] at hd
    have hh : seqT (codeD cx cf n mask dl a) (codeD cx cf n mask dl b) e h = some r := hh
    show seqT (codeT cx cf n mask a) (codeT cx cf n mask b) e h = some r
    unfold seqT at *
    obtain ⟨⟨x, e1, h1⟩, h1h, hh⟩ := bnd_eq_some.1 hh
    rw [iha hd.1 e h _ h1h, bnd_some]
    simp only [three_mk] at *
    cases x with
    | normal => exact ihb hd.2 e1 h1 r hh
    | exit i => exact hh
    | ret => exact hh
  | cond o a b iha ihb =>
    intro hd e h r hh
    simp only [drawsOk, Bool.and_eq_true] at hd
    have hh : condT cx mask o (codeD cx cf n mask dl a) (codeD cx cf n mask dl b) e h = some r := hh
    show condT cx mask o (codeT cx cf n mask a) (codeT cx cf n mask b) e h = some r
    unfold condT at *
    obtain ⟨v, hv, hh⟩ := bnd_eq_some.1 hh
    rw [hv, bnd_some]
    cases v <;> first | exact hh | skip
    rename_i t
    cases t with
    | true => exact iha hd.1 e h r hh
    | false => exact ihb hd.2 e h r hh
  | block id a ih =>
    intro hd e h r hh
    simp only [drawsOk] at hd
    have hh : blockT id (codeD cx cf n mask dl a) e h = some r := hh
    show blockT id (codeT cx cf n mask a) e h = some r
    unfold blockT at *
    obtain ⟨p, h1h, hh⟩ := bnd_eq_some.1 hh
    rw [ih hd e h _ h1h, bnd_some]; exact hh
  | loop a ih =>
    intro hd e h r hh
    simp only [drawsOk] at hd
    have key : ∀ k e h r, loopT (codeD cx cf n mask dl a) k e h = some r → loopT (codeT cx cf n mask a) k e h = some r := by
      intro k
      induction k with
      | zero => intro e h r hh; simp [loopT] at hh
      | succ k ihk =>
        intro e h r hh
        have hh : (bnd (codeD cx cf n mask dl a e h) fun r => three r fun x e' h' => @Ex.rec (fun _ => Out) (loopT (codeD cx cf n mask dl a) k e' h') (fun i => some (.exit i, e', h')) (some (.ret, e', h')) x) = some r := hh
        show (bnd (codeT cx cf n mask a e h) fun r => three r fun x e' h' => @Ex.rec (fun _ => Out) (loopT (codeT cx cf n mask a) k e' h') (fun i => some (.exit i, e', h')) (some (.ret, e', h')) x) = some r
        obtain ⟨⟨x, e1, h1⟩, h1h, hh⟩ := bnd_eq_some.1 hh
        rw [ih hd e h _ h1h, bnd_some]
        simp only [three_mk] at *
        cases x with
        | normal => exact ihk e1 h1 r hh
        | exit i => exact hh
        | ret => exact hh
    exact key n e h r hh
  | _ => intro _ e h r hh; first | exact hh | (simp [codeD] at hh)

/-! ### regions -/
def WR (cx : Ctx) (cf : CallF) (mask : Nat) (ops : Array Oper) (l : List Oper) (vs tm : Vars) (h : H) (Q : Vars → H → Prop) : Prop :=
  ∃ e' h', runOps cx cf mask ops l ⟨vs, tm⟩ h = some (e', h') ∧ Q e'.vars h'
def WX (x : Option (T × H)) (k : T → H → Prop) : Prop := ∃ v h, x = some (v, h) ∧ k v h
@[simp] theorem WX_some (v : T) (h : H) (k : T → H → Prop) : WX (some (v, h)) k = k v h := by
  apply propext; constructor
  · rintro ⟨v', h', he, hk⟩
    simp only [Option.some.injEq, Prod.mk.injEq] at he
    obtain ⟨rfl, rfl⟩ := he; exact hk
  · exact fun hk => ⟨v, h, rfl, hk⟩
def WD (mask : Nat) (d : Option Tmp) (v : T) (vs tm : Vars) (k : Vars → Vars → Prop) : Prop := match d with
  | none => k vs tm
  | some s => if lasts mask s = true then k (put vs s v) tm else k vs (.cons s v tm)
theorem lasts_eq (m s : Nat) : (lasts m s = true) = ((m >>> s) &&& 1 = 1) := by
  apply propext
  show Nat.beq ((m >>> s) &&& 1) 1 = true ↔ _
  exact ⟨Nat.eq_of_beq_eq_true, fun h => by rw [h]; rfl⟩
theorem WD_none (v : T) (vs tm : Vars) (k : Vars → Vars → Prop) : WD mask none v vs tm k = k vs tm := rfl
theorem WD_some (s : Tmp) (v : T) (vs tm : Vars) (k : Vars → Vars → Prop) : WD mask (some s) v vs tm k = if (mask >>> s) &&& 1 = 1 then k (put vs s v) tm else k vs (.cons s v tm) := by
  unfold WD; simp only [lasts_eq]
theorem WR_nil (ops : Array Oper) (vs tm : Vars) (h : H) (Q : Vars → H → Prop) : WR cx cf mask ops [] vs tm h Q = Q vs h := by
  apply propext; constructor
  · rintro ⟨e, h', hh, hq⟩
    have hh : some ((⟨vs, tm⟩ : Env), h) = some (e, h') := hh
    simp only [Option.some.injEq, Prod.mk.injEq] at hh
    obtain ⟨rfl, rfl⟩ := hh; exact hq
  · exact fun hq => ⟨⟨vs, tm⟩, h, rfl, hq⟩
theorem WR_cons (ops : Array Oper) (o : Oper) (l : List Oper) (vs tm : Vars) (h : H) (Q : Vars → H → Prop) :
    WR cx cf mask ops (o :: l) vs tm h Q = WX (stepV cx cf mask ops ⟨vs, tm⟩ h o) fun v h' => WD mask o.dst v vs tm fun vs tm => WR cx cf mask ops l vs tm h' Q := by
  have key : ∀ v h', (∃ e1, Env.dst mask ⟨vs, tm⟩ o.dst v = some e1 ∧ WR cx cf mask ops l e1.vars e1.tmps h' Q) ↔ WD mask o.dst v vs tm fun vs tm => WR cx cf mask ops l vs tm h' Q := by
    intro v h'
    cases hd : o.dst with
    | none =>
      constructor
      · rintro ⟨e1, he, hw⟩
        have he : some (⟨vs, tm⟩ : Env) = some e1 := he
        simp only [Option.some.injEq] at he; subst he; exact hw
      · exact fun hw => ⟨_, rfl, hw⟩
    | some s =>
      have hE : Env.dst mask ⟨vs, tm⟩ (some s) v = some (if lasts mask s = true then ⟨put vs s v, tm⟩ else ⟨vs, .cons s v tm⟩) := by
        show @Bool.rec (fun _ => Option Env) (some ⟨vs, .cons s v tm⟩) (bnd (setVar vs s v) fun l => some ⟨l, tm⟩) (lasts mask s) = _
        rw [setVar_put]
        cases lasts mask s <;> rfl
      rw [hE]
      unfold WD
      simp only [Option.some.injEq, exists_eq_left']
      split <;> rfl
  apply propext
  have h1 : runOps cx cf mask ops (o :: l) ⟨vs, tm⟩ h = bnd (stepOp cx cf mask ops ⟨vs, tm⟩ h o) fun p => two p fun e' h' => runOps cx cf mask ops l e' h' := rfl
  unfold WR
  rw [h1, stepOp_stepV]
  constructor
  · rintro ⟨e', h', hh, hq⟩
    obtain ⟨⟨v, h2⟩, hs, hh⟩ := bnd_eq_some.1 hh
    simp only [two_mk] at hh
    obtain ⟨e1, he, hh⟩ := bnd_eq_some.1 hh
    exact ⟨v, h2, hs, (key v h2).1 ⟨e1, he, e', h', hh, hq⟩⟩
  · rintro ⟨v, h2, hs, hw⟩
    obtain ⟨e1, he, e', h', hh, hq⟩ := (key v h2).2 hw
    refine ⟨e', h', ?_, hq⟩
    rw [hs, bnd_some, two_mk, he, bnd_some]; exact hh
/-- The next operation, unguarded. -/
theorem WR_op (ops : Array Oper) (d : Option Tmp) (op : Op) (t : TypeId) (p : String) (a : Array Edge) (l : List Oper) (vs tm : Vars) (h : H) (Q : Vars → H → Prop) :
    WR cx cf mask ops (⟨d, op, t, p, a, none⟩ :: l) vs tm h Q = WX (fin cf h (opH op cx mask ⟨vs, tm⟩ h)) fun v h' => WD mask d v vs tm fun vs tm => WR cx cf mask ops l vs tm h' Q := WR_cons ops _ l vs tm h Q
def WG (w : Option Bool) (a b : Prop) : Prop := match w with | some true => a | some false => b | none => False
theorem WG_true (a b : Prop) : WG (some true) a b = a := rfl
theorem WG_false (a b : Prop) : WG (some false) a b = b := rfl
theorem WG_bool (t : Bool) (a b : Prop) : WG (some t) a b = if t = true then a else b := by cases t <;> rfl
/-- The next operation, guarded. -/
theorem WR_guard (ops : Array Oper) (d : Option Tmp) (op : Op) (t : TypeId) (p : String) (a : Array Edge) (j : Nat) (b : Bool) (l : List Oper) (vs tm : Vars) (h : H) (Q : Vars → H → Prop) :
    WR cx cf mask ops (⟨d, op, t, p, a, some (j, b)⟩ :: l) vs tm h Q = WG (wantT ops mask ⟨vs, tm⟩ (some (j, b)))
      (WX (fin cf h (opH op cx mask ⟨vs, tm⟩ h)) fun v h' => WD mask d v vs tm fun vs tm => WR cx cf mask ops l vs tm h' Q)
      (WD mask d .undef vs tm fun vs tm => WR cx cf mask ops l vs tm h Q) := by
  rw [WR_cons]
  show WX (bnd (wantT ops mask ⟨vs, tm⟩ (some (j, b))) fun want => @Bool.rec (fun _ => Option (T × H)) (some (.undef, h)) (fin cf h (opH op cx mask ⟨vs, tm⟩ h)) want) _ = _
  cases wantT ops mask ⟨vs, tm⟩ (some (j, b)) with
  | none => apply propext; constructor <;> (first | (rintro ⟨v, h', he, _⟩; simp [bnd] at he) | exact False.elim)
  | some w => cases w <;> simp [WG_true, WG_false]
def wantW (v : Option T) (b : Bool) : Option Bool := bnd v fun v => match v with | .bool t => some (t == b) | _ => some false
@[simp] theorem wantW_bool (t b : Bool) : wantW (some (.bool t)) b = some (t == b) := rfl
@[simp] theorem wantW_undef (b : Bool) : wantW (some .undef) b = some false := rfl
@[simp] theorem wantT_some (ops : List Oper) (e : Env) (j : Nat) (b : Bool) : wantT ops.toArray mask e (some (j, b)) = wantW (bnd (bnd (ops[j]?) fun o => o.dst) fun d => e.get mask d) b := by
  show (bnd (bnd (bnd (nthD ops.toArray.toList j) fun o => o.dst) fun d => e.get mask d) fun v => _) = _
  rw [nthD_eq]
  unfold wantW
  simp only
  cases (bnd (bnd (ops[j]?) fun o => o.dst) fun d => e.get mask d) with
  | none => rfl
  | some v => cases v <;> first | rfl | (rename_i t; cases t <;> cases b <;> rfl)
@[simp] theorem get_env (vs tm : Vars) (s : Nat) : Env.get mask ⟨vs, tm⟩ s = if (mask >>> s) &&& 1 = 1 then look vs s else look tm s := by
  show @Bool.rec (fun _ => Option T) (look tm s) (look vs s) (lasts mask s) = _
  simp only [← lasts_eq]
  cases lasts mask s <;> rfl
/-- The same, where what stands in no order is looked at. -/
def WRD (cx : Ctx) (cf : CallF) (mask : Nat) (ops : Array Oper) (cp : List (Nat × Nat)) (l : List Oper) (i : Nat) (lo : List (Nat × Nat)) (ef : List (Nat × H × H)) (vs tm : Vars) (h : H) (Q : Vars → H → Prop) : Prop :=
  ∃ e' h', runDC cx cf mask ops cp l i lo ef ⟨vs, tm⟩ h = some (e', h') ∧ Q e'.vars h'
theorem WRD_nil (ops : Array Oper) (cp : List (Nat × Nat)) (i : Nat) (lo : List (Nat × Nat)) (ef : List (Nat × H × H)) (vs tm : Vars) (h : H) (Q : Vars → H → Prop) : WRD cx cf mask ops cp [] i lo ef vs tm h Q = Q vs h := by
  apply propext; constructor
  · rintro ⟨e, h', hh, hq⟩
    have hh : some ((⟨vs, tm⟩ : Env), h) = some (e, h') := hh
    simp only [Option.some.injEq, Prod.mk.injEq] at hh
    obtain ⟨rfl, rfl⟩ := hh; exact hq
  · exact fun hq => ⟨⟨vs, tm⟩, h, rfl, hq⟩
/-- What is checked and remembered at an operation that is wanted. -/
def DK (cx : Ctx) (mask : Nat) (cp : List (Nat × Nat)) (i : Nat) (lo : List (Nat × Nat)) (ef : List (Nat × H × H)) (op : Op) (e : Env) (h h' : H) (k : List (Nat × Nat) → List (Nat × H × H) → Prop) : Prop :=
  if isEff op = true then (effCk cp i h h' lo ∧ (∀ t x v b, op = .store t x v → bnd (opnd cx mask e x) boxOf = some b → lookCk cp i b ef)) ∧ k lo (if fromCp cp i = true then (i, h, h') :: ef else ef)
  else match looksBox cx mask e h op with
    | none => k lo ef
    | some b => lookCk cp i b ef ∧ k (if fromCp cp i = true then (i, b) :: lo else lo) ef
theorem WRD_cons (ops : Array Oper) (cp : List (Nat × Nat)) (o : Oper) (l : List Oper) (i : Nat) (lo : List (Nat × Nat)) (ef : List (Nat × H × H)) (vs tm : Vars) (h : H) (Q : Vars → H → Prop) :
    WRD cx cf mask ops cp (o :: l) i lo ef vs tm h Q = WG (wantT ops mask ⟨vs, tm⟩ o.guard)
      (WX (fin cf h (opH o.op cx mask ⟨vs, tm⟩ h)) fun v h' => DK cx mask cp i lo ef o.op ⟨vs, tm⟩ h h' fun lo ef => WD mask o.dst v vs tm fun vs tm => WRD cx cf mask ops cp l (i + 1) lo ef vs tm h' Q)
      (WD mask o.dst .undef vs tm fun vs tm => WRD cx cf mask ops cp l (i + 1) lo ef vs tm h Q) := by
  have key : ∀ v h' (lo : List (Nat × Nat)) (ef : List (Nat × H × H)), (∃ e1, Env.dst mask ⟨vs, tm⟩ o.dst v = some e1 ∧ WRD cx cf mask ops cp l (i + 1) lo ef e1.vars e1.tmps h' Q) ↔ WD mask o.dst v vs tm fun vs tm => WRD cx cf mask ops cp l (i + 1) lo ef vs tm h' Q := by
    intro v h' lo ef
    cases hd : o.dst with
    | none =>
      constructor
      · rintro ⟨e1, he, hw⟩
        have he : some (⟨vs, tm⟩ : Env) = some e1 := he
        simp only [Option.some.injEq] at he; subst he; exact hw
      · exact fun hw => ⟨_, rfl, hw⟩
    | some s =>
      have hE : Env.dst mask ⟨vs, tm⟩ (some s) v = some (if lasts mask s = true then ⟨put vs s v, tm⟩ else ⟨vs, .cons s v tm⟩) := by
        show @Bool.rec (fun _ => Option Env) (some ⟨vs, .cons s v tm⟩) (bnd (setVar vs s v) fun l => some ⟨l, tm⟩) (lasts mask s) = _
        rw [setVar_put]
        cases lasts mask s <;> rfl
      rw [hE]
      unfold WD
      simp only [Option.some.injEq, exists_eq_left']
      split <;> rfl
  apply propext
  constructor
  · rintro ⟨e', h', hh, hq⟩
    unfold runDC at hh
    rw [stepOp_stepV] at hh
    obtain ⟨⟨v, h2⟩, hs, hh1⟩ := bnd_eq_some.1 hh
    simp only [two_mk] at hh1
    obtain ⟨e1, he, hh2⟩ := bnd_eq_some.1 hh1
    obtain ⟨w, hw, hh3⟩ := bnd_eq_some.1 hh2
    clear hh hh1 hh2
    unfold stepV at hs
    rw [hw, bnd_some] at hs
    rw [hw]
    cases w with
    | false =>
      replace hs : some (T.undef, h) = some (v, h2) := hs
      simp only [Option.some.injEq, Prod.mk.injEq] at hs
      obtain ⟨rfl, rfl⟩ := hs
      simp only [Bool.false_eq_true, if_false] at hh3
      exact (key _ _ lo ef).1 ⟨e1, he, e', h', hh3, hq⟩
    | true =>
      simp only [if_true] at hh3
      refine ⟨v, h2, hs, ?_⟩
      unfold DK
      split
      · rename_i hE
        rw [if_pos hE] at hh3
        split at hh3
        · rename_i hck
          exact ⟨hck, (key _ _ _ _).1 ⟨e1, he, e', h', hh3, hq⟩⟩
        · simp at hh3
      · rename_i hE
        rw [if_neg hE] at hh3
        cases hb : looksBox cx mask ⟨vs, tm⟩ h o.op with
        | none => rw [hb] at hh3; exact (key _ _ _ _).1 ⟨e1, he, e', h', hh3, hq⟩
        | some b =>
          rw [hb] at hh3
          simp only at hh3
          split at hh3
          · rename_i hck
            exact ⟨hck, (key _ _ _ _).1 ⟨e1, he, e', h', hh3, hq⟩⟩
          · simp at hh3
  · intro hG
    unfold WRD runDC
    rw [stepOp_stepV]
    cases hw : wantT ops mask ⟨vs, tm⟩ o.guard with
    | none => rw [hw] at hG; exact hG.elim
    | some w =>
      rw [hw] at hG
      have hsv : stepV cx cf mask ops ⟨vs, tm⟩ h o = @Bool.rec (fun _ => Option (T × H)) (some (.undef, h)) (fin cf h (opH o.op cx mask ⟨vs, tm⟩ h)) w := by
        unfold stepV; rw [hw, bnd_some]
      cases w with
      | false =>
        obtain ⟨e1, he, e', h', hh, hq⟩ := (key _ _ lo ef).2 hG
        refine ⟨e', h', ?_, hq⟩
        rw [hsv]
        simp only [bnd_some, two_mk, he]
        exact hh
      | true =>
        obtain ⟨v, h2, hs, hG⟩ := hG
        rw [hsv]
        simp only [hs, bnd_some, two_mk, if_true]
        unfold DK at hG
        split at hG
        · rename_i hE
          obtain ⟨hck, hG⟩ := hG
          obtain ⟨e1, he, e', h', hh, hq⟩ := (key _ _ _ _).2 hG
          refine ⟨e', h', ?_, hq⟩
          rw [he, bnd_some, if_pos hE, if_pos hck]; exact hh
        · rename_i hE
          cases hb : looksBox cx mask ⟨vs, tm⟩ h o.op with
          | none =>
            rw [hb] at hG
            obtain ⟨e1, he, e', h', hh, hq⟩ := (key _ _ _ _).2 hG
            refine ⟨e', h', ?_, hq⟩
            rw [he, bnd_some, if_neg hE]; exact hh
          | some b =>
            rw [hb] at hG
            obtain ⟨hck, hG⟩ := hG
            obtain ⟨e1, he, e', h', hh, hq⟩ := (key _ _ _ _).2 hG
            refine ⟨e', h', ?_, hq⟩
            rw [he, bnd_some, if_neg hE]
            simp only
            rw [if_pos hck]; exact hh
theorem WRD_op (ops : Array Oper) (cp : List (Nat × Nat)) (d : Option Tmp) (op : Op) (t : TypeId) (p : String) (a : Array Edge) (l : List Oper) (i : Nat) (lo : List (Nat × Nat)) (ef : List (Nat × H × H)) (vs tm : Vars) (h : H) (Q : Vars → H → Prop) :
    WRD cx cf mask ops cp (⟨d, op, t, p, a, none⟩ :: l) i lo ef vs tm h Q =
      WX (fin cf h (opH op cx mask ⟨vs, tm⟩ h)) fun v h' => DK cx mask cp i lo ef op ⟨vs, tm⟩ h h' fun lo ef => WD mask d v vs tm fun vs tm => WRD cx cf mask ops cp l (i + 1) lo ef vs tm h' Q := WRD_cons ops cp _ l i lo ef vs tm h Q
theorem WRD_guard (ops : Array Oper) (cp : List (Nat × Nat)) (d : Option Tmp) (op : Op) (t : TypeId) (p : String) (a : Array Edge) (j : Nat) (b : Bool) (l : List Oper) (i : Nat) (lo : List (Nat × Nat)) (ef : List (Nat × H × H)) (vs tm : Vars) (h : H) (Q : Vars → H → Prop) :
    WRD cx cf mask ops cp (⟨d, op, t, p, a, some (j, b)⟩ :: l) i lo ef vs tm h Q = WG (wantT ops mask ⟨vs, tm⟩ (some (j, b)))
      (WX (fin cf h (opH op cx mask ⟨vs, tm⟩ h)) fun v h' => DK cx mask cp i lo ef op ⟨vs, tm⟩ h h' fun lo ef => WD mask d v vs tm fun vs tm => WRD cx cf mask ops cp l (i + 1) lo ef vs tm h' Q)
      (WD mask d .undef vs tm fun vs tm => WRD cx cf mask ops cp l (i + 1) lo ef vs tm h Q) := WRD_cons ops cp _ l i lo ef vs tm h Q
/-! ### the same, without binders: what is left to do is no function -/
/-- The rest of a region. -/
def RK (cx : Ctx) (cf : CallF) (mask : Nat) (ops : Array Oper) (l : List Oper) (vs tm : Vars) (h : H) (K : Kont) : Prop := WR cx cf mask ops l vs tm h fun vs h => K.n ⟨vs, .nil⟩ h
/-- An operation has come to x. -/
def XK (x : Option (T × H)) (cx : Ctx) (cf : CallF) (mask : Nat) (ops : Array Oper) (d : Option Tmp) (l : List Oper) (vs tm : Vars) (K : Kont) : Prop := WX x fun v h' => WD mask d v vs tm fun vs tm => RK cx cf mask ops l vs tm h' K
def GK (w : Option Bool) (cx : Ctx) (cf : CallF) (mask : Nat) (ops : Array Oper) (d : Option Tmp) (op : Op) (l : List Oper) (vs tm : Vars) (h : H) (K : Kont) : Prop :=
  WG w (XK (fin cf h (opH op cx mask ⟨vs, tm⟩ h)) cx cf mask ops d l vs tm K) (WD mask d .undef vs tm fun vs tm => RK cx cf mask ops l vs tm h K)
@[simp] theorem RK_nil (ops : Array Oper) (vs tm : Vars) (h : H) (K : Kont) : RK cx cf mask ops [] vs tm h K = K.n ⟨vs, .nil⟩ h := WR_nil ops vs tm h _
@[simp] theorem RK_op (ops : Array Oper) (d : Option Tmp) (op : Op) (t : TypeId) (p : String) (a : Array Edge) (l : List Oper) (vs tm : Vars) (h : H) (K : Kont) :
    RK cx cf mask ops (⟨d, op, t, p, a, none⟩ :: l) vs tm h K = XK (fin cf h (opH op cx mask ⟨vs, tm⟩ h)) cx cf mask ops d l vs tm K := WR_op ops d op t p a l vs tm h _
@[simp] theorem RK_guard (ops : Array Oper) (d : Option Tmp) (op : Op) (t : TypeId) (p : String) (a : Array Edge) (j : Nat) (b : Bool) (l : List Oper) (vs tm : Vars) (h : H) (K : Kont) :
    RK cx cf mask ops (⟨d, op, t, p, a, some (j, b)⟩ :: l) vs tm h K = GK (wantT ops mask ⟨vs, tm⟩ (some (j, b))) cx cf mask ops d op l vs tm h K := WR_guard ops d op t p a j b l vs tm h _
@[simp] theorem XK_none (v : T) (h : H) (ops : Array Oper) (l : List Oper) (vs tm : Vars) (K : Kont) : XK (some (v, h)) cx cf mask ops none l vs tm K = RK cx cf mask ops l vs tm h K := by
  unfold XK; rw [WX_some]; rfl
@[simp] theorem XK_some (v : T) (h : H) (ops : Array Oper) (s : Tmp) (l : List Oper) (vs tm : Vars) (K : Kont) : XK (some (v, h)) cx cf mask ops (some s) l vs tm K =
    if (mask >>> s) &&& 1 = 1 then RK cx cf mask ops l (put vs s v) tm h K else RK cx cf mask ops l vs (.cons s v tm) h K := by
  unfold XK; rw [WX_some, WD_some]
@[simp] theorem GK_true (ops : Array Oper) (d : Option Tmp) (op : Op) (l : List Oper) (vs tm : Vars) (h : H) (K : Kont) : GK (some true) cx cf mask ops d op l vs tm h K = XK (fin cf h (opH op cx mask ⟨vs, tm⟩ h)) cx cf mask ops d l vs tm K := id rfl
@[simp] theorem GK_false (ops : Array Oper) (s : Tmp) (op : Op) (l : List Oper) (vs tm : Vars) (h : H) (K : Kont) : GK (some false) cx cf mask ops (some s) op l vs tm h K = if (mask >>> s) &&& 1 = 1 then RK cx cf mask ops l (put vs s .undef) tm h K else RK cx cf mask ops l vs (.cons s .undef tm) h K := by
  show WD mask (some s) .undef vs tm (fun vs tm => RK cx cf mask ops l vs tm h K) = _
  rw [WD_some]
@[simp] theorem GK_falseN (ops : Array Oper) (op : Op) (l : List Oper) (vs tm : Vars) (h : H) (K : Kont) : GK (some false) cx cf mask ops none op l vs tm h K = RK cx cf mask ops l vs tm h K := id rfl
theorem GK_bool (t : Bool) (ops : Array Oper) (d : Option Tmp) (op : Op) (l : List Oper) (vs tm : Vars) (h : H) (K : Kont) : GK (some t) cx cf mask ops d op l vs tm h K = if t = true then GK (some true) cx cf mask ops d op l vs tm h K else GK (some false) cx cf mask ops d op l vs tm h K := by cases t <;> rfl
/-! draws -/
def stCk (cx : Ctx) (mask : Nat) (cp : List (Nat × Nat)) (i : Nat) (ef : List (Nat × H × H)) (op : Op) (e : Env) : Prop := match op with
  | .store _ x _ => (match bnd (opnd cx mask e x) boxOf with | some b => lookCk cp i b ef | none => True)
  | _ => True
def boxCk (cp : List (Nat × Nat)) (i : Nat) (ef : List (Nat × H × H)) (x : Option Nat) : Prop := match x with | some b => lookCk cp i b ef | none => True
@[simp] theorem boxCk_none (cp : List (Nat × Nat)) (i : Nat) (ef : List (Nat × H × H)) : boxCk cp i ef none = True := id rfl
@[simp] theorem boxCk_some (cp : List (Nat × Nat)) (i : Nat) (ef : List (Nat × H × H)) (b : Nat) : boxCk cp i ef (some b) = lookCk cp i b ef := id rfl
@[simp] theorem stCk_store (cp : List (Nat × Nat)) (i : Nat) (ef : List (Nat × H × H)) (t : TypeId) (x v : Operand) (e : Env) : stCk cx mask cp i ef (.store t x v) e = boxCk cp i ef (bnd (opnd cx mask e x) boxOf) := id rfl
@[simp] theorem stCk_call (cp : List (Nat × Nat)) (i : Nat) (ef : List (Nat × H × H)) (c : Call) (e : Env) : stCk cx mask cp i ef (.call c) e = True := id rfl
@[simp] theorem stCk_upd (cp : List (Nat × Nat)) (i : Nat) (ef : List (Nat × H × H)) (t : TypeId) (a b c : Operand) (e : Env) : stCk cx mask cp i ef (.mapUpdate t a b c) e = True := id rfl
def DRK (cx : Ctx) (cf : CallF) (mask : Nat) (ops : Array Oper) (cp : List (Nat × Nat)) (l : List Oper) (i : Nat) (lo : List (Nat × Nat)) (ef : List (Nat × H × H)) (vs tm : Vars) (h : H) (K : Kont) : Prop := WRD cx cf mask ops cp l i lo ef vs tm h fun vs h => K.n ⟨vs, .nil⟩ h
def DXK (x : Option (T × H)) (cx : Ctx) (cf : CallF) (mask : Nat) (ops : Array Oper) (cp : List (Nat × Nat)) (d : Option Tmp) (op : Op) (l : List Oper) (i : Nat) (lo : List (Nat × Nat)) (ef : List (Nat × H × H)) (vs tm : Vars) (h : H) (K : Kont) : Prop :=
  WX x fun v h' => DK cx mask cp i lo ef op ⟨vs, tm⟩ h h' fun lo ef => WD mask d v vs tm fun vs tm => DRK cx cf mask ops cp l (i + 1) lo ef vs tm h' K
def DGK (w : Option Bool) (cx : Ctx) (cf : CallF) (mask : Nat) (ops : Array Oper) (cp : List (Nat × Nat)) (d : Option Tmp) (op : Op) (l : List Oper) (i : Nat) (lo : List (Nat × Nat)) (ef : List (Nat × H × H)) (vs tm : Vars) (h : H) (K : Kont) : Prop :=
  WG w (DXK (fin cf h (opH op cx mask ⟨vs, tm⟩ h)) cx cf mask ops cp d op l i lo ef vs tm h K) (WD mask d .undef vs tm fun vs tm => DRK cx cf mask ops cp l (i + 1) lo ef vs tm h K)
/-- The value goes into its slot, in a region that draws. -/
def DSK (v : T) (cx : Ctx) (cf : CallF) (mask : Nat) (ops : Array Oper) (cp : List (Nat × Nat)) (d : Option Tmp) (l : List Oper) (i : Nat) (lo : List (Nat × Nat)) (ef : List (Nat × H × H)) (vs tm : Vars) (h : H) (K : Kont) : Prop := WD mask d v vs tm fun vs tm => DRK cx cf mask ops cp l i lo ef vs tm h K
/-- What is asked of a look. -/
def DLK (x : Option Nat) (v : T) (cx : Ctx) (cf : CallF) (mask : Nat) (ops : Array Oper) (cp : List (Nat × Nat)) (d : Option Tmp) (l : List Oper) (i : Nat) (lo : List (Nat × Nat)) (ef : List (Nat × H × H)) (vs tm : Vars) (h : H) (K : Kont) : Prop := match x with
  | none => DSK v cx cf mask ops cp d l (i + 1) lo ef vs tm h K
  | some b => lookCk cp i b ef ∧ DSK v cx cf mask ops cp d l (i + 1) (if fromCp cp i = true then (i, b) :: lo else lo) ef vs tm h K
@[simp] theorem DLK_none (v : T) (ops : Array Oper) (cp : List (Nat × Nat)) (d : Option Tmp) (l : List Oper) (i : Nat) (lo : List (Nat × Nat)) (ef : List (Nat × H × H)) (vs tm : Vars) (h : H) (K : Kont) : DLK none v cx cf mask ops cp d l i lo ef vs tm h K = DSK v cx cf mask ops cp d l (i + 1) lo ef vs tm h K := id rfl
@[simp] theorem DLK_some (b : Nat) (v : T) (ops : Array Oper) (cp : List (Nat × Nat)) (d : Option Tmp) (l : List Oper) (i : Nat) (lo : List (Nat × Nat)) (ef : List (Nat × H × H)) (vs tm : Vars) (h : H) (K : Kont) : DLK (some b) v cx cf mask ops cp d l i lo ef vs tm h K = (lookCk cp i b ef ∧ DSK v cx cf mask ops cp d l (i + 1) (if fromCp cp i = true then (i, b) :: lo else lo) ef vs tm h K) := id rfl
@[simp] theorem DSK_none (v : T) (ops : Array Oper) (cp : List (Nat × Nat)) (l : List Oper) (i : Nat) (lo : List (Nat × Nat)) (ef : List (Nat × H × H)) (vs tm : Vars) (h : H) (K : Kont) : DSK v cx cf mask ops cp none l i lo ef vs tm h K = DRK cx cf mask ops cp l i lo ef vs tm h K := id rfl
@[simp] theorem DSK_some (v : T) (ops : Array Oper) (cp : List (Nat × Nat)) (s : Tmp) (l : List Oper) (i : Nat) (lo : List (Nat × Nat)) (ef : List (Nat × H × H)) (vs tm : Vars) (h : H) (K : Kont) : DSK v cx cf mask ops cp (some s) l i lo ef vs tm h K =
    if (mask >>> s) &&& 1 = 1 then DRK cx cf mask ops cp l i lo ef (put vs s v) tm h K else DRK cx cf mask ops cp l i lo ef vs (.cons s v tm) h K := by unfold DSK; rw [WD_some]
@[simp] theorem DRK_nil (ops : Array Oper) (cp : List (Nat × Nat)) (i : Nat) (lo : List (Nat × Nat)) (ef : List (Nat × H × H)) (vs tm : Vars) (h : H) (K : Kont) : DRK cx cf mask ops cp [] i lo ef vs tm h K = K.n ⟨vs, .nil⟩ h := WRD_nil ops cp i lo ef vs tm h _
@[simp] theorem DRK_op (ops : Array Oper) (cp : List (Nat × Nat)) (d : Option Tmp) (op : Op) (t : TypeId) (p : String) (a : Array Edge) (l : List Oper) (i : Nat) (lo : List (Nat × Nat)) (ef : List (Nat × H × H)) (vs tm : Vars) (h : H) (K : Kont) :
    DRK cx cf mask ops cp (⟨d, op, t, p, a, none⟩ :: l) i lo ef vs tm h K = DXK (fin cf h (opH op cx mask ⟨vs, tm⟩ h)) cx cf mask ops cp d op l i lo ef vs tm h K := WRD_op ops cp d op t p a l i lo ef vs tm h _
@[simp] theorem DRK_guard (ops : Array Oper) (cp : List (Nat × Nat)) (d : Option Tmp) (op : Op) (t : TypeId) (p : String) (a : Array Edge) (j : Nat) (b : Bool) (l : List Oper) (i : Nat) (lo : List (Nat × Nat)) (ef : List (Nat × H × H)) (vs tm : Vars) (h : H) (K : Kont) :
    DRK cx cf mask ops cp (⟨d, op, t, p, a, some (j, b)⟩ :: l) i lo ef vs tm h K = DGK (wantT ops mask ⟨vs, tm⟩ (some (j, b))) cx cf mask ops cp d op l i lo ef vs tm h K := WRD_guard ops cp d op t p a j b l i lo ef vs tm h _
@[simp] theorem DGK_true (ops : Array Oper) (cp : List (Nat × Nat)) (d : Option Tmp) (op : Op) (l : List Oper) (i : Nat) (lo : List (Nat × Nat)) (ef : List (Nat × H × H)) (vs tm : Vars) (h : H) (K : Kont) : DGK (some true) cx cf mask ops cp d op l i lo ef vs tm h K = DXK (fin cf h (opH op cx mask ⟨vs, tm⟩ h)) cx cf mask ops cp d op l i lo ef vs tm h K := id rfl
@[simp] theorem DGK_false (ops : Array Oper) (cp : List (Nat × Nat)) (d : Option Tmp) (op : Op) (l : List Oper) (i : Nat) (lo : List (Nat × Nat)) (ef : List (Nat × H × H)) (vs tm : Vars) (h : H) (K : Kont) : DGK (some false) cx cf mask ops cp d op l i lo ef vs tm h K = DSK .undef cx cf mask ops cp d l (i + 1) lo ef vs tm h K := id rfl
theorem DGK_bool (t : Bool) (ops : Array Oper) (cp : List (Nat × Nat)) (d : Option Tmp) (op : Op) (l : List Oper) (i : Nat) (lo : List (Nat × Nat)) (ef : List (Nat × H × H)) (vs tm : Vars) (h : H) (K : Kont) : DGK (some t) cx cf mask ops cp d op l i lo ef vs tm h K = if t = true then DGK (some true) cx cf mask ops cp d op l i lo ef vs tm h K else DGK (some false) cx cf mask ops cp d op l i lo ef vs tm h K := by cases t <;> rfl
/-- An operation of a region that draws: a change, or a look. -/
def DEK (ef? : Bool) (v : T) (h' : H) (cx : Ctx) (cf : CallF) (mask : Nat) (ops : Array Oper) (cp : List (Nat × Nat)) (d : Option Tmp) (op : Op) (l : List Oper) (i : Nat) (lo : List (Nat × Nat)) (ef : List (Nat × H × H)) (vs tm : Vars) (h : H) (K : Kont) : Prop := match ef? with
  | true => (effCk cp i h h' lo ∧ stCk cx mask cp i ef op ⟨vs, tm⟩) ∧ DSK v cx cf mask ops cp d l (i + 1) lo (if fromCp cp i = true then (i, h, h') :: ef else ef) vs tm h' K
  | false => DLK (looksBox cx mask ⟨vs, tm⟩ h op) v cx cf mask ops cp d l i lo ef vs tm h' K
@[simp] theorem DEK_true (v : T) (h' : H) (ops : Array Oper) (cp : List (Nat × Nat)) (d : Option Tmp) (op : Op) (l : List Oper) (i : Nat) (lo : List (Nat × Nat)) (ef : List (Nat × H × H)) (vs tm : Vars) (h : H) (K : Kont) : DEK true v h' cx cf mask ops cp d op l i lo ef vs tm h K = ((effCk cp i h h' lo ∧ stCk cx mask cp i ef op ⟨vs, tm⟩) ∧ DSK v cx cf mask ops cp d l (i + 1) lo (if fromCp cp i = true then (i, h, h') :: ef else ef) vs tm h' K) := id rfl
@[simp] theorem DEK_false (v : T) (h' : H) (ops : Array Oper) (cp : List (Nat × Nat)) (d : Option Tmp) (op : Op) (l : List Oper) (i : Nat) (lo : List (Nat × Nat)) (ef : List (Nat × H × H)) (vs tm : Vars) (h : H) (K : Kont) : DEK false v h' cx cf mask ops cp d op l i lo ef vs tm h K = DLK (looksBox cx mask ⟨vs, tm⟩ h op) v cx cf mask ops cp d l i lo ef vs tm h' K := id rfl
@[simp] theorem DXK_some (v : T) (h' : H) (ops : Array Oper) (cp : List (Nat × Nat)) (d : Option Tmp) (op : Op) (l : List Oper) (i : Nat) (lo : List (Nat × Nat)) (ef : List (Nat × H × H)) (vs tm : Vars) (h : H) (K : Kont) :
    DXK (some (v, h')) cx cf mask ops cp d op l i lo ef vs tm h K = DEK (isEff op) v h' cx cf mask ops cp d op l i lo ef vs tm h K := by
  unfold DXK
  rw [WX_some]
  unfold DK
  cases hE : isEff op with
  | true =>
    rw [if_pos rfl, DEK_true]
    have : (∀ t x v b, op = .store t x v → bnd (opnd cx mask ⟨vs, tm⟩ x) boxOf = some b → lookCk cp i b ef) ↔ stCk cx mask cp i ef op ⟨vs, tm⟩ := by
      constructor
      · intro hs
        cases op <;> first | exact trivial | skip
        rename_i t x v
        rw [stCk_store]
        cases hb : bnd (opnd cx mask ⟨vs, tm⟩ x) boxOf with
        | none => exact trivial
        | some b => exact hs t x v b rfl hb
      · intro hs t x v b hop hb
        subst hop
        rw [stCk_store, hb] at hs
        exact hs
    rw [this]; rfl
  | false =>
    rw [if_neg (by simp), DEK_false]
    cases looksBox cx mask ⟨vs, tm⟩ h op <;> rfl
section
variable (e : Env) (h : H)
@[simp] theorem isEff_store (t : TypeId) (x v : Operand) : isEff (.store t x v) = true := id rfl
@[simp] theorem isEff_callv (f : Operand) (a : Array Operand) (ts : Array TypeId) : isEff (.call ⟨.value f, a, ts⟩) = true := id rfl
@[simp] theorem isEff_callb (b : Builtin) (a : Array Operand) (ts : Array TypeId) : isEff (.call ⟨.builtin b, a, ts⟩) = (match b with | .len | .min | .max => false | _ => true) := id rfl
@[simp] theorem isEff_move (x : Operand) : isEff (.move x) = false := id rfl
@[simp] theorem isEff_assign (x : Operand) : isEff (.assign x) = false := id rfl
@[simp] theorem isEff_pick (x y z : Operand) : isEff (.pick x y z) = false := id rfl
@[simp] theorem isEff_load (t : TypeId) (x : Operand) : isEff (.load t x) = false := id rfl
@[simp] theorem isEff_nc (x : Operand) : isEff (.nilCheck x) = false := id rfl
@[simp] theorem isEff_fa (t : TypeId) (x : Operand) (f : Nat) : isEff (.fieldAddr t x f) = false := id rfl
@[simp] theorem isEff_fd (t : TypeId) (x : Operand) (f : Nat) : isEff (.field t x f) = false := id rfl
@[simp] theorem isEff_ia (t : TypeId) (x y : Operand) : isEff (.indexAddr t x y) = false := id rfl
@[simp] theorem isEff_ix (t : TypeId) (x y : Operand) : isEff (.index t x y) = false := id rfl
@[simp] theorem isEff_bin (o : BinOp) (t u : TypeId) (x y : Operand) : isEff (.binOp o t x y u) = false := id rfl
@[simp] theorem isEff_un (o : UnOp) (t : TypeId) (x : Operand) : isEff (.unOp o t x) = false := id rfl
@[simp] theorem isEff_alloc (t : TypeId) : isEff (.alloc t) = false := id rfl
@[simp] theorem isEff_box (t : TypeId) (x : Operand) : isEff (.box t x) = false := id rfl
@[simp] theorem isEff_build (t : TypeId) (ps : Array (Nat × Operand)) : isEff (.build t ps) = false := id rfl
@[simp] theorem isEff_bs (t : TypeId) (n : Nat) (ps : Array (Nat × Operand)) : isEff (.buildSlice t n ps) = false := id rfl
@[simp] theorem isEff_ms (t : TypeId) (x y : Operand) : isEff (.makeSlice t x y) = false := id rfl
@[simp] theorem isEff_sl (t : TypeId) (x : Operand) (a b c : Option Operand) : isEff (.slice t x a b c) = false := id rfl
@[simp] theorem isEff_ex (x : Operand) (i : Nat) : isEff (.extract x i) = false := id rfl
@[simp] theorem isEff_cv (t u : TypeId) (x : Operand) : isEff (.convert t u x) = false := id rfl
@[simp] theorem isEff_mf (f : Fn) (a b : Array Operand) : isEff (.makeFunc f a b) = false := id rfl
@[simp] theorem lb_load (t : TypeId) (x : Operand) : looksBox cx mask e h (.load t x) = bnd (opnd cx mask e x) boxOf := id rfl
@[simp] theorem lb_ia (t : TypeId) (x y : Operand) : looksBox cx mask e h (.indexAddr t x y) = bnd (opnd cx mask e x) boxOf := id rfl
@[simp] theorem lb_sl (t : TypeId) (x : Operand) (a b c : Option Operand) : looksBox cx mask e h (.slice t x a b c) = bnd (opnd cx mask e x) boxOf := id rfl
@[simp] theorem lb_cv (t u : TypeId) (x : Operand) : looksBox cx mask e h (.convert t u x) = bnd (opnd cx mask e x) boxOf := id rfl
@[simp] theorem lb_alloc (t : TypeId) : looksBox cx mask e h (.alloc t) = some h.size := id rfl
@[simp] theorem lb_box (t : TypeId) (x : Operand) : looksBox cx mask e h (.box t x) = some h.size := id rfl
@[simp] theorem lb_bs (t : TypeId) (n : Nat) (ps : Array (Nat × Operand)) : looksBox cx mask e h (.buildSlice t n ps) = some h.size := id rfl
@[simp] theorem lb_ms (t : TypeId) (x y : Operand) : looksBox cx mask e h (.makeSlice t x y) = some h.size := id rfl
@[simp] theorem lb_move (x : Operand) : looksBox cx mask e h (.move x) = none := id rfl
@[simp] theorem lb_assign (x : Operand) : looksBox cx mask e h (.assign x) = none := id rfl
@[simp] theorem lb_pick (x y z : Operand) : looksBox cx mask e h (.pick x y z) = none := id rfl
@[simp] theorem lb_nc (x : Operand) : looksBox cx mask e h (.nilCheck x) = none := id rfl
@[simp] theorem lb_fa (t : TypeId) (x : Operand) (f : Nat) : looksBox cx mask e h (.fieldAddr t x f) = none := id rfl
@[simp] theorem lb_fd (t : TypeId) (x : Operand) (f : Nat) : looksBox cx mask e h (.field t x f) = none := id rfl
@[simp] theorem lb_ix (t : TypeId) (x y : Operand) : looksBox cx mask e h (.index t x y) = none := id rfl
@[simp] theorem lb_bin (o : BinOp) (t u : TypeId) (x y : Operand) : looksBox cx mask e h (.binOp o t x y u) = none := id rfl
@[simp] theorem lb_un (o : UnOp) (t : TypeId) (x : Operand) : looksBox cx mask e h (.unOp o t x) = none := id rfl
@[simp] theorem lb_build (t : TypeId) (ps : Array (Nat × Operand)) : looksBox cx mask e h (.build t ps) = none := id rfl
@[simp] theorem lb_ex (x : Operand) (i : Nat) : looksBox cx mask e h (.extract x i) = none := id rfl
@[simp] theorem lb_call (c : Call) : looksBox cx mask e h (.call c) = none := id rfl
@[simp] theorem lb_mf (f : Fn) (a b : Array Operand) : looksBox cx mask e h (.makeFunc f a b) = none := id rfl
@[simp] theorem boxOf_ptr (b ep i j : Nat) : boxOf (.ptr b ep i j) = some b := id rfl
@[simp] theorem boxOf_arr (b ep o l : Nat) (f : Bool) : boxOf (.arr b ep o l f) = some b := id rfl
@[simp] theorem boxOf_tree (es : List T) (f : Bool) : boxOf (.tree es f) = none := id rfl
@[simp] theorem boxOf_wild : boxOf .ewild = none := id rfl
@[simp] theorem boxOf_tptr (cs : List T) : boxOf (.tptr cs) = none := id rfl
@[simp] theorem boxOf_int (k : IntKind) (n : Int) : boxOf (.int k n) = none := id rfl
@[simp] theorem boxOf_str (s : List Nat) : boxOf (.str s) = none := id rfl
end
/-! ### code -/
variable {dl : DL}
/-- A region, by whether its draws are looked at. -/
def QK (cx : Ctx) (cf : CallF) (mask : Nat) (ops : List Oper) (d : Option (List (Nat × Nat))) (vs : Vars) (h : H) (K : Kont) : Prop := match d with
  | none => RK cx cf mask ops.toArray ops vs .nil h K
  | some cp => DRK cx cf mask ops.toArray cp ops 0 [] [] vs .nil h K
@[simp] theorem QK_none (ops : List Oper) (vs : Vars) (h : H) (K : Kont) : QK cx cf mask ops none vs h K = RK cx cf mask ops.toArray ops vs .nil h K := id rfl
@[simp] theorem QK_some (ops : List Oper) (cp : List (Nat × Nat)) (vs : Vars) (h : H) (K : Kont) : QK cx cf mask ops (some cp) vs h K = DRK cx cf mask ops.toArray cp ops 0 [] [] vs .nil h K := id rfl
theorem W_bnd (x : Option (Env × H)) (K : Kont) : W (bnd x fun r => two r fun e' h' => some (.normal, (⟨e'.vars, .nil⟩ : Env), h')) K = ∃ e' h', x = some (e', h') ∧ K.n ⟨e'.vars, .nil⟩ h' := by
  cases x with
  | none => apply propext; constructor <;> (first | (rintro ⟨v, h', hh, he, _⟩; simp [bnd] at he) | (rintro ⟨v, h', he, _⟩; simp at he))
  | some p =>
    obtain ⟨e', h'⟩ := p
    simp only [bnd_some, two_mk, W_normal, Option.some.injEq, Prod.mk.injEq]
    apply propext; constructor
    · exact fun hk => ⟨e', h', ⟨rfl, rfl⟩, hk⟩
    · rintro ⟨_, _, ⟨rfl, rfl⟩, hk⟩; exact hk
@[simp] theorem W_creg (id : Nat) (ops : List Oper) (d : Bool) (vs tm : Vars) (h : H) (K : Kont) : W (codeD cx cf n mask dl (.region id ops.toArray d) ⟨vs, tm⟩ h) K = QK cx cf mask ops (dl.lookup id) vs h K := by
  show W (regD cx cf mask dl id ops.toArray ⟨vs, tm⟩ h) K = _
  unfold regD
  cases dl.lookup id with
  | none => exact W_bnd _ K
  | some cp => exact W_bnd _ K
@[simp] theorem W_cseq (a b : Code) (e : Env) (h : H) (K : Kont) : W (codeD cx cf n mask dl (.seq a b) e h) K = W (codeD cx cf n mask dl a e h) (kseq (codeD cx cf n mask dl b) K) := W_seq _ _ e h K
@[simp] theorem W_cblock (id : Nat) (a : Code) (e : Env) (h : H) (K : Kont) : W (codeD cx cf n mask dl (.block id a) e h) K = W (codeD cx cf n mask dl a e h) (kblock id K) := W_block id _ e h K
/-- A branch. -/
def CK (v : Option T) (cx : Ctx) (cf : CallF) (n mask : Nat) (dl : DL) (a b : Code) (e : Env) (h : H) (K : Kont) : Prop := condV v (W (codeD cx cf n mask dl a e h) K) (W (codeD cx cf n mask dl b e h) K)
@[simp] theorem CK_bool (t : Bool) (a b : Code) (e : Env) (h : H) (K : Kont) : CK (some (.bool t)) cx cf n mask dl a b e h K = if t = true then W (codeD cx cf n mask dl a e h) K else W (codeD cx cf n mask dl b e h) K := id rfl
@[simp] theorem W_ccond (s : Nat) (a b : Code) (vs tm : Vars) (h : H) (K : Kont) : W (codeD cx cf n mask dl (.cond (.tmp s) a b) ⟨vs, tm⟩ h) K = CK (if (mask >>> s) &&& 1 = 1 then look vs s else look tm s) cx cf n mask dl a b ⟨vs, tm⟩ h K := by
  rw [← get_env]
  apply propext
  unfold CK
  show W (bnd (Env.get mask ⟨vs, tm⟩ s) fun v => _) K ↔ _
  cases Env.get mask ⟨vs, tm⟩ s with
  | none => simp [bnd, condV, W_none]
  | some v =>
    simp only [bnd_some]
    cases v <;> simp only [condV, W_none]
    rename_i t
    cases t <;> simp
@[simp] theorem W_cloop (b : Code) (e : Env) (h : H) (K : Kont) : W (codeD cx cf n mask dl (.loop b) e h) K = W (loopT (codeD cx cf n mask dl b) n e h) K := rfl
@[simp] theorem W_cskip (e : Env) (h : H) (K : Kont) : W (codeD cx cf n mask dl .skip e h) K = K.n e h := W_normal e h K
@[simp] theorem W_cexit (id : Nat) (e : Env) (h : H) (K : Kont) : W (codeD cx cf n mask dl (.exit id) e h) K = K.x id e h := W_exit id e h K
@[simp] theorem W_cret (e : Env) (h : H) (K : Kont) : W (codeD cx cf n mask dl .ret e h) K = K.r e h := W_ret e h K
end
end Go.TI

/- Walks: the operations one by one, for values that are known in part. -/
namespace Go.TI
set_option linter.unusedVariables false
set_option linter.unusedSimpArgs false
noncomputable section
variable {cx : Ctx} {cf : CallF} {mask : Nat} {e : Env} {h : H}
attribute [simp] look_put look_cons2 mapOpt_cons H.new_cons
@[simp] theorem mapOpt_nil2 {α β : Type} (f : α → Option β) : mapOpt f [] = some [] := rfl
/-! ### operands -/
@[simp] theorem opnd_tmp (vs tm : Vars) (s : Nat) : opnd cx mask ⟨vs, tm⟩ (.tmp s) = if (mask >>> s) &&& 1 = 1 then look vs s else look tm s := get_env vs tm s
@[simp] theorem opnd_int (k : IntKind) (n : Int) : opnd cx mask e (.const (.int k n)) = some (.int k n) := rfl
@[simp] theorem opnd_bool (b : Bool) : opnd cx mask e (.const (.bool b)) = some (.bool b) := rfl
@[simp] theorem opnd_nils : opnd cx mask e (.const (.slice none 0 0)) = some (.tree [] false) := rfl
@[simp] theorem opnd_nilp : opnd cx mask e (.const (.pointer none)) = some .nilp := rfl
@[simp] theorem opnd_nilm : opnd cx mask e (.const (.map none)) = some .nilm := rfl
@[simp] theorem opnd_nilf : opnd cx mask e (.const .nilFunc) = some .nilf := rfl
@[simp] theorem opnd_nili : opnd cx mask e (.const .nilIface) = some .nili := rfl
@[simp] theorem opnd_str (s : ByteArray) : opnd cx mask e (.const (.string s)) = some (.str (s.data.toList.map UInt8.toNat)) := by
  show (bnd (bytesN s.data.toList) fun l => some (T.str l)) = _
  have : ∀ l : List UInt8, bytesN l = some (l.map UInt8.toNat) := by
    intro l
    induction l with
    | nil => rfl
    | cons x l ih =>
      show (bnd (normNat x.toNat) fun y => bnd (bytesN l) fun t => some (y :: t)) = _
      rw [ih]; simp
  rw [this]; rfl
@[simp] theorem opnd_func (f : FuncId) : opnd cx mask e (.func f) = some (.func f []) := rfl
@[simp] theorem opnd_glob (g : Nat) : opnd cx mask e (.global g) = bnd (cx.gl g) fun cs => some (.tptr cs) := rfl
@[simp] theorem opnds_eq (l : List Operand) : opnds cx mask e l = mapOpt (opnd cx mask e) l := rfl
/-! ### indices -/
def toIdxI (n : Int) : Option Nat := if 0 ≤ n then some n.toNat else none
@[simp] theorem toIdx_int (k : IntKind) (n : Int) : toIdx (.int k n) = toIdxI n := by
  unfold toIdxI
  cases n with
  | ofNat m => rw [if_pos (by simp)]; rfl
  | negSucc m => rw [if_neg (by omega)]; rfl
@[simp] theorem toIdxI_nat (n : Nat) : toIdxI (n : Int) = some n := by unfold toIdxI; rw [if_pos (by omega)]; rfl
@[simp] theorem toIdxI_lit (n : Nat) : toIdxI (no_index (OfNat.ofNat n) : Int) = some n := toIdxI_nat n
@[simp] theorem toIdxI_0 : toIdxI 0 = some 0 := id rfl
@[simp] theorem toIdxI_1 : toIdxI 1 = some 1 := id rfl
theorem toIdxI_of {n : Int} (h : 0 ≤ n) : toIdxI n = some n.toNat := by unfold toIdxI; rw [if_pos h]
/-! ### operations -/
@[simp] theorem oH_move (x : Operand) : opH (.move x) cx mask e h = val h (opnd cx mask e x) := rfl
@[simp] theorem oH_assign (x : Operand) : opH (.assign x) cx mask e h = val h (opnd cx mask e x) := rfl
def pickW (c : Option T) (a b : Option Did) : Option Did := bnd c fun c => match c with | .bool t => if t = true then a else b | _ => none
@[simp] theorem pickW_bool (t : Bool) (a b : Option Did) : pickW (some (.bool t)) a b = if t = true then a else b := rfl
@[simp] theorem oH_pick (c a b : Operand) : opH (.pick c a b) cx mask e h = pickW (opnd cx mask e c) (val h (opnd cx mask e a)) (val h (opnd cx mask e b)) := by
  show (bnd (opnd cx mask e c) fun c => _) = _
  unfold pickW
  cases opnd cx mask e c with
  | none => rfl
  | some v => cases v <;> first | rfl | (rename_i t; cases t <;> rfl)
@[simp] theorem isBytes_eq (ty : Ty) : isBytes cx ty = (match ty.u with
  | .array _ el => Option.casesOn (cx.ty el) false fun te => (match te.u with | .int k => kEq k .u8 | _ => false)
  | _ => false) := rfl
@[simp] theorem oH_alloc (t : TypeId) : opH (.alloc t) cx mask e h = bnd (cx.ty t) fun ty => if isBytes cx ty = true then some (.val (.ptr h.size 0 0 0) (h.cons (newBox 1 true ty.zero))) else some (.val (.ptr h.size 0 0 0) (h.cons (newBox ty.size true [ty.zeroT]))) := by
  show (bnd (cx.ty t) fun ty => _) = _
  cases cx.ty t with
  | none => rfl
  | some ty =>
    simp only [bnd_some]
    cases isBytes cx ty <;> simp
@[simp] theorem newBox_eq (sz : Nat) (x : Bool) (es : List T) : newBox sz x es = ⟨sz, 0, 0, x, false, es⟩ := rfl
@[simp] theorem oH_box (t : TypeId) (x : Operand) : opH (.box t x) cx mask e h = bnd (opnd cx mask e x) fun v => chk v.good (some (.val (.ptr h.size 0 0 0) (h.cons ⟨v.cells.length, 0, 0, true, false, [v]⟩))) := by
  show (bnd (opnd cx mask e x) fun v => chk v.good (valNew (h.new (fun b => .ptr b 0 0 0) (newBox (lenN v.cells) true [v])))) = _
  simp
def pairsW (cx : Ctx) (mask : Nat) (e : Env) : List (Nat × Operand) → Option (List (Nat × T))
  | [] => some []
  | (i, o) :: l => bnd (opnd cx mask e o) fun x => chk x.good (bnd (pairsW cx mask e l) fun r => some ((i, x) :: r))
@[simp] theorem pairsW_nil : pairsW cx mask e [] = some [] := rfl
@[simp] theorem pairsW_cons (i : Nat) (o : Operand) (l : List (Nat × Operand)) : pairsW cx mask e ((i, o) :: l) = bnd (opnd cx mask e o) fun x => chk x.good (bnd (pairsW cx mask e l) fun r => some ((i, x) :: r)) := rfl
theorem partsOf_eq (l : List (Nat × Operand)) : partsOf cx mask e l = pairsW cx mask e l := by
  induction l with
  | nil => rfl
  | cons p l ih =>
    obtain ⟨i, o⟩ := p
    show (bnd (bnd (opnd cx mask e o) fun x => chk x.good (some (i, x))) fun y => bnd (partsOf cx mask e l) fun t => some (y :: t)) = _
    rw [ih, pairsW_cons]
    cases opnd cx mask e o with
    | none => rfl
    | some x => cases hg : x.good <;> simp [hg]
/-- The cells of a struct that is built: offset, size and value of each part. -/
def fillW (cx : Ctx) (fs : List (Nat × TypeId)) : List (Nat × T) → List T → Option (List T)
  | [], cs => some cs
  | (i, v) :: ps, cs => bnd (fs[i]?) fun f => bnd (cx.ty f.2) fun tf => chk (decide (v.cells.length = tf.size)) (bnd (splice cs f.1 v.cells) fun cs' => fillW cx fs ps cs')
@[simp] theorem fillW_nil (fs : List (Nat × TypeId)) (cs : List T) : fillW cx fs [] cs = some cs := rfl
@[simp] theorem fillW_cons (fs : List (Nat × TypeId)) (i : Nat) (v : T) (ps : List (Nat × T)) (cs : List T) : fillW cx fs ((i, v) :: ps) cs = bnd (fs[i]?) fun f => bnd (cx.ty f.2) fun tf => chk (decide (v.cells.length = tf.size)) (bnd (splice cs f.1 v.cells) fun cs' => fillW cx fs ps cs') := rfl
theorem fillCells_eq (fs : List (Nat × TypeId)) : ∀ (ps : List (Nat × T)) (cs : List T), fillCells (fun i => bnd (nthD fs i) fun f => bnd (cx.ty f.2) fun tf => some (f.1, tf.size)) ps cs = fillW cx fs ps cs := by
  intro ps
  induction ps with
  | nil => intro cs; rfl
  | cons p ps ih =>
    intro cs
    obtain ⟨i, v⟩ := p
    show (bnd (bnd (nthD fs i) fun f => bnd (cx.ty f.2) fun tf => some (f.1, tf.size)) fun q => chk (Nat.beq (lenN v.cells) q.2) (bnd (splice cs q.1 v.cells) fun cs' => fillCells (fun i => bnd (nthD fs i) fun f => bnd (cx.ty f.2) fun tf => some (f.1, tf.size)) ps cs')) = _
    rw [fillW_cons, nthD_eq]
    cases fs[i]? with
    | none => rfl
    | some f =>
      simp only [bnd_some]
      cases cx.ty f.2 with
      | none => rfl
      | some tf => simp only [bnd_some, lenN_eq, beq_nat, ih]
def fillA (sz : Nat) : List (Nat × T) → List T → Option (List T)
  | [], cs => some cs
  | (i, v) :: ps, cs => chk (decide (v.cells.length = sz)) (bnd (splice cs (i * sz) v.cells) fun cs' => fillA sz ps cs')
@[simp] theorem fillA_nil (sz : Nat) (cs : List T) : fillA sz [] cs = some cs := rfl
@[simp] theorem fillA_cons (sz i : Nat) (v : T) (ps : List (Nat × T)) (cs : List T) : fillA sz ((i, v) :: ps) cs = chk (decide (v.cells.length = sz)) (bnd (splice cs (i * sz) v.cells) fun cs' => fillA sz ps cs') := rfl
theorem fillCellsA_eq (sz : Nat) : ∀ (ps : List (Nat × T)) (cs : List T), fillCells (fun i => some (Nat.mul i sz, sz)) ps cs = fillA sz ps cs := by
  intro ps
  induction ps with
  | nil => intro cs; rfl
  | cons p ps ih =>
    intro cs
    obtain ⟨i, v⟩ := p
    show (chk (Nat.beq (lenN v.cells) sz) (bnd (splice cs (Nat.mul i sz) v.cells) fun cs' => fillCells (fun i => some (Nat.mul i sz, sz)) ps cs')) = _
    simp only [lenN_eq, beq_nat, ih, fillA_cons]
    rfl
@[simp] theorem splice_0n (cs : List T) : splice cs 0 [] = some cs := by rw [splice_eq]; simp
@[simp] theorem splice_01 (c v : T) (cs : List T) : splice (c :: cs) 0 [v] = some (v :: cs) := by rw [splice_eq]; simp
@[simp] theorem splice_0c (c v w : T) (cs vs : List T) : splice (c :: cs) 0 (v :: w :: vs) = bnd (splice cs 0 (w :: vs)) fun r => some (v :: r) := by
  rw [splice_eq, splice_eq]
  simp only [List.length_cons, Nat.zero_add, List.take_zero, List.nil_append]
  by_cases hl : vs.length + 1 ≤ cs.length
  · rw [if_pos (by omega), if_pos (by omega)]; simp
  · rw [if_neg (by omega), if_neg (by omega)]; rfl
@[simp] theorem splice_s (c : T) (cs vs : List T) (j : Nat) : splice (c :: cs) (j + 1) vs = bnd (splice cs j vs) fun r => some (c :: r) := rfl
@[simp] theorem splice_lit (c : T) (cs vs : List T) (j : Nat) [NeZero j] : splice (c :: cs) (no_index (OfNat.ofNat j)) vs = bnd (splice cs (j - 1) vs) fun r => some (c :: r) := by
  obtain ⟨k, hk⟩ := Nat.exists_eq_succ_of_ne_zero (NeZero.ne j)
  show splice (c :: cs) j vs = _
  rw [hk]; rfl
def buildW (cx : Ctx) (h : H) (ty : Ty) (ps : List (Nat × T)) : Option Did := match ty.u with
  | .struct fs => bnd (fillW cx fs ps ty.zero) fun cs => some (.val (.agg cs) h)
  | .array _ el => bnd (cx.ty el) fun te => bnd (fillA te.size ps ty.zero) fun cs => some (.val (.agg cs) h)
  | _ => none
@[simp] theorem buildW_eq (ty : Ty) (ps : List (Nat × T)) : buildW cx h ty ps = (match ty.u with
  | .struct fs => bnd (fillW cx fs ps ty.zero) fun cs => some (.val (.agg cs) h)
  | .array _ el => bnd (cx.ty el) fun te => bnd (fillA te.size ps ty.zero) fun cs => some (.val (.agg cs) h)
  | _ => none) := rfl
@[simp] theorem oH_build (t : TypeId) (ps : List (Nat × Operand)) : opH (.build t ps.toArray) cx mask e h = bnd (cx.ty t) fun ty => bnd (pairsW cx mask e ps) fun ps => buildW cx h ty ps := by
  show (bnd (cx.ty t) fun ty => bnd (partsOf cx mask e ps) fun ps => _) = _
  rw [partsOf_eq]
  congr 1; funext ty; congr 1; funext ps
  unfold buildW
  cases ty.u <;> first | rfl | (simp only [fillCells_eq, fillCellsA_eq, val_some])
def elemsW (sz : Nat) : List (Nat × T) → List T → Option (List T)
  | [], es => some es
  | (i, v) :: ps, es => chk (decide (v.cells.length = sz)) (chk (decide (i < es.length)) (elemsW sz ps (es.set i v)))
@[simp] theorem elemsW_nil (sz : Nat) (es : List T) : elemsW sz [] es = some es := rfl
@[simp] theorem elemsW_cons (sz i : Nat) (v : T) (ps : List (Nat × T)) (es : List T) : elemsW sz ((i, v) :: ps) es = chk (decide (v.cells.length = sz)) (chk (decide (i < es.length)) (elemsW sz ps (es.set i v))) := rfl
theorem fillElems_eq (sz : Nat) : ∀ (ps : List (Nat × T)) (es : List T), fillElems sz ps es = elemsW sz ps es := by
  intro ps
  induction ps with
  | nil => intro es; rfl
  | cons p ps ih =>
    intro es
    obtain ⟨i, v⟩ := p
    show (chk (Nat.beq (lenN v.cells) sz) (bnd (setNth es i v) fun es' => fillElems sz ps es')) = _
    simp only [lenN_eq, beq_nat, ih, elemsW_cons, setNth_eq]
    by_cases hi : i < es.length <;> simp [hi]
@[simp] theorem oH_buildSlice (t : TypeId) (len : Nat) (ps : List (Nat × Operand)) : opH (.buildSlice t len ps.toArray) cx mask e h = bnd (cx.ty t) fun ty => (match ty.u with
    | .slice el => bnd (cx.ty el) fun te => bnd (pairsW cx mask e ps) fun ps => chk (decide (1 ≤ te.size)) <| chk (decide (len * te.size ≤ 65536)) (bnd (elemsW te.size ps (List.replicate len te.zeroT)) fun es =>
          some (.val (.arr h.size 0 0 len false) (h.cons ⟨te.size, 0, 0, true, false, es⟩)))
    | _ => none) := by
  show (bnd (cx.ty t) fun ty => _) = _
  congr 1; funext ty
  cases ty.u <;> first | rfl | skip
  rename_i el
  simp only [partsOf_eq, fillElems_eq, replicateN_eq, H.new_cons, ble_nat, newBox_eq, valNew_some]
  rfl
@[simp] theorem oH_load (t : TypeId) (a : Operand) : opH (.load t a) cx mask e h = bnd (cx.ty t) fun ty => bnd (opnd cx mask e a) fun a => val h (h.load ty a) := rfl
def ldB (x : Box) (ep i j : Nat) (ty : Ty) : Option T := chk (decide (x.ep = ep)) (if x.it = true then none else bnd (x.elems[i]?) fun e => bnd (dropN j e.cells) fun cs => readAs ty cs)
@[simp] theorem ldB_mk (sz ep' ver : Nat) (ex it : Bool) (es : List T) (ep i j : Nat) (ty : Ty) : ldB ⟨sz, ep', ver, ex, it, es⟩ ep i j ty = chk (decide (ep' = ep)) (if it = true then none else bnd (es[i]?) fun e => bnd (dropN j e.cells) fun cs => readAs ty cs) := id rfl
@[simp] theorem load_p (ty : Ty) (b ep i j : Nat) : h.load ty (.ptr b ep i j) = bnd (h.get b) fun x => ldB x ep i j ty := by
  show (bnd (bnd (h.get b) fun x => Box.casesOn x fun _ ep' _ _ it elems => chk (Nat.beq ep' ep) (Bool.casesOn it (nthD elems i) none)) fun e => bnd (dropN j e.cells) fun cs => readAs ty cs) = _
  cases h.get b with
  | none => rfl
  | some x =>
    obtain ⟨sz, ep', ver, ex, it, es⟩ := x
    simp only [bnd_some, ldB_mk, beq_nat, nthD_eq]
    cases decide (ep' = ep) <;> cases it <;> simp
def stB (h : H) (b : Nat) (x : Box) (ep i j : Nat) (vs : List T) : Option H := chk (decide (x.ep = ep)) (if x.it = true then none else bnd (x.elems[i]?) fun e => bnd (setIn e j vs) fun e' => some (putB h b ⟨x.sz, x.ep, x.ver + 1, x.exact, false, x.elems.set i e'⟩))
@[simp] theorem stB_mk (b sz ep' ver : Nat) (ex it : Bool) (es : List T) (ep i j : Nat) (vs : List T) : stB h b ⟨sz, ep', ver, ex, it, es⟩ ep i j vs = chk (decide (ep' = ep)) (if it = true then none else bnd (es[i]?) fun e => bnd (setIn e j vs) fun e' => some (putB h b ⟨sz, ep', ver + 1, ex, false, es.set i e'⟩)) := id rfl
theorem put_some {b : Nat} {x : Box} (hg : h.get b = some x) (y : Box) : h.put b y = some (putB h b y) := by
  have : ∃ h', h.put b y = some h' := by
    obtain ⟨size, low, boxes⟩ := h
    rw [H.get_eq] at hg
    simp only at hg
    by_cases hb : b < size
    · rw [if_pos hb] at hg
      have hl : size - 1 - b < boxes.length := by
        rcases Nat.lt_or_ge (size - 1 - b) boxes.length with hlt | hge
        · exact hlt
        · rw [List.getElem?_eq_none hge] at hg; simp at hg
      show ∃ h', (chk (Nat.blt b size) (bnd (setNth boxes (Nat.sub (Nat.sub size 1) b) y) fun bs => @Bool.rec (fun _ => Option H) (some ⟨size, low, bs⟩) (some ⟨size, b, bs⟩) (Nat.blt b low))) = some h'
      rw [show Nat.blt b size = true by rw [Nat.blt_eq]; exact hb, chk_true, setNth_eq, if_pos (by show size - 1 - b < _; omega), bnd_some]
      cases Nat.blt b low <;> exact ⟨_, rfl⟩
    · rw [if_neg hb] at hg; simp at hg
  obtain ⟨h', hh⟩ := this
  unfold putB; rw [hh]; rfl
@[simp] theorem store_p (ty : Ty) (b ep i j : Nat) (v : T) : h.store ty (.ptr b ep i j) v = chk (decide (v.cells.length = ty.size)) (bnd (h.get b) fun x => stB h b x ep i j v.cells) := by
  show (chk (Nat.beq (lenN v.cells) ty.size) (bnd (h.get b) fun x => Box.casesOn x fun sz ep' ver exact it elems =>
      chk (Nat.beq ep' ep) (@Bool.rec (fun _ => Option H) (bnd (nthD elems i) fun e => bnd (setIn e j v.cells) fun e' => bnd (setNth elems i e') fun es =>
        bnd (normNat (Nat.succ ver)) fun ver' => h.put b ⟨sz, ep', ver', exact, false, es⟩) none it))) = _
  simp only [lenN_eq, beq_nat]
  cases hg : h.get b with
  | none => rfl
  | some x =>
    obtain ⟨sz, ep', ver, ex, it, es⟩ := x
    simp only [bnd_some, stB_mk]
    congr 1; congr 1
    cases it with
    | true => rfl
    | false =>
      simp only [nthD_eq, Bool.false_eq_true, if_false]
      cases he : es[i]? with
      | none => rfl
      | some e =>
        simp only [bnd_some]
        cases setIn e j v.cells with
        | none => rfl
        | some e' =>
          have hi : i < es.length := by
            rcases Nat.lt_or_ge i es.length with hlt | hge
            · exact hlt
            · rw [List.getElem?_eq_none hge] at he; simp at he
          simp only [bnd_some, setNth_eq, if_pos hi, normNat_eq, put_some hg]
@[simp] theorem oH_store (t : TypeId) (a x : Operand) : opH (.store t a x) cx mask e h = bnd (cx.ty t) fun ty => bnd (opnd cx mask e a) fun a => bnd (opnd cx mask e x) fun v => chk v.good (bnd (h.store ty a v) fun h' => some (.val .undef h')) := rfl
def ncW (h : H) (v : T) : Option Did := match v with | .ptr .. | .tptr _ | .func .. => some (.val v h) | _ => none
@[simp] theorem ncW_ptr (b ep i j : Nat) : ncW h (.ptr b ep i j) = some (.val (.ptr b ep i j) h) := rfl
@[simp] theorem ncW_tptr (cs : List T) : ncW h (.tptr cs) = some (.val (.tptr cs) h) := rfl
@[simp] theorem ncW_func (f : FuncId) (cs : List T) : ncW h (.func f cs) = some (.val (.func f cs) h) := rfl
@[simp] theorem oH_nilCheck (x : Operand) : opH (.nilCheck x) cx mask e h = bnd (opnd cx mask e x) fun v => ncW h v := rfl
@[simp] theorem nilOk_int (x y : Operand) (k : IntKind) (n : Int) (b : T) : nilOk x y (.int k n) b = true := id rfl
@[simp] theorem nilOk_str (x y : Operand) (s : List Nat) (b : T) : nilOk x y (.str s) b = true := id rfl
@[simp] theorem nilOk_bool (x y : Operand) (s : Bool) (b : T) : nilOk x y (.bool s) b = true := id rfl
@[simp] theorem nilOk_agg (x y : Operand) (s : List T) (b : T) : nilOk x y (.agg s) b = true := id rfl
@[simp] theorem nilOk_ptr (x y : Operand) (c ep i j : Nat) (b : T) : nilOk x y (.ptr c ep i j) b = true := id rfl
@[simp] theorem nilOk_func (x y : Operand) (f : FuncId) (cs : List T) (b : T) : nilOk x y (.func f cs) b = true := id rfl
@[simp] theorem nilOk_nilf (x y : Operand) (b : T) : nilOk x y .nilf b = true := id rfl
@[simp] theorem oH_eql (t u : TypeId) (x y : Operand) : opH (.binOp .eql t x y u) cx mask e h = bnd (cx.ty t) fun ty => bnd (opnd cx mask e x) fun a => bnd (opnd cx mask e y) fun b => chk (nilOk x y a b) (bnd (eqT cx ty a b) fun r => some (.val (.bool r) h)) := by
  show (bnd (cx.ty t) fun ty => bnd (opnd cx mask e x) fun a => bnd (opnd cx mask e y) fun b => chk (nilOk x y a b) (bnd (eqT cx ty a b) fun r => val h (rBool r))) = _
  simp
@[simp] theorem oH_neq (t u : TypeId) (x y : Operand) : opH (.binOp .neq t x y u) cx mask e h = bnd (cx.ty t) fun ty => bnd (opnd cx mask e x) fun a => bnd (opnd cx mask e y) fun b => chk (nilOk x y a b) (bnd (eqT cx ty a b) fun r => some (.val (.bool !r) h)) := by
  show (bnd (cx.ty t) fun ty => bnd (opnd cx mask e x) fun a => bnd (opnd cx mask e y) fun b => chk (nilOk x y a b) (bnd (eqT cx ty a b) fun r => val h (rBool (!r)))) = _
  simp
@[simp] theorem eqT_int (ty : Ty) (k : IntKind) (a b : Int) (hu : ty.u = .int k) : eqT cx ty (.int k a) (.int k b) = some (decide (a = b)) := by unfold eqT; rw [hu]; simp
@[simp] theorem eqT_str (ty : Ty) (a b : List Nat) (hu : ty.u = .str) : eqT cx ty (.str a) (.str b) = some (decide (a = b)) := by unfold eqT; rw [hu]; simp
@[simp] theorem eqT_bool (ty : Ty) (a b : Bool) (hu : ty.u = .bool) : eqT cx ty (.bool a) (.bool b) = some (a == b) := by unfold eqT; rw [hu]; simp
def hBinW (op : BinOp) (x y : Option T) (h : H) : Option Did := bnd x fun a => bnd y fun b => val h (binop op a b)
@[simp] theorem hBinW_eq (op : BinOp) (a b : T) : hBinW op (some a) (some b) h = val h (binop op a b) := rfl
@[simp] theorem oH_add (t u : TypeId) (x y : Operand) : opH (.binOp .add t x y u) cx mask e h = hBinW .add (opnd cx mask e x) (opnd cx mask e y) h := rfl
@[simp] theorem oH_sub (t u : TypeId) (x y : Operand) : opH (.binOp .sub t x y u) cx mask e h = hBinW .sub (opnd cx mask e x) (opnd cx mask e y) h := rfl
@[simp] theorem oH_mul (t u : TypeId) (x y : Operand) : opH (.binOp .mul t x y u) cx mask e h = hBinW .mul (opnd cx mask e x) (opnd cx mask e y) h := rfl
@[simp] theorem oH_quo (t u : TypeId) (x y : Operand) : opH (.binOp .quo t x y u) cx mask e h = hBinW .quo (opnd cx mask e x) (opnd cx mask e y) h := rfl
@[simp] theorem oH_rem (t u : TypeId) (x y : Operand) : opH (.binOp .rem t x y u) cx mask e h = hBinW .rem (opnd cx mask e x) (opnd cx mask e y) h := rfl
@[simp] theorem oH_lss (t u : TypeId) (x y : Operand) : opH (.binOp .lss t x y u) cx mask e h = hBinW .lss (opnd cx mask e x) (opnd cx mask e y) h := rfl
@[simp] theorem oH_leq (t u : TypeId) (x y : Operand) : opH (.binOp .leq t x y u) cx mask e h = hBinW .leq (opnd cx mask e x) (opnd cx mask e y) h := rfl
@[simp] theorem oH_gtr (t u : TypeId) (x y : Operand) : opH (.binOp .gtr t x y u) cx mask e h = hBinW .gtr (opnd cx mask e x) (opnd cx mask e y) h := rfl
@[simp] theorem oH_geq (t u : TypeId) (x y : Operand) : opH (.binOp .geq t x y u) cx mask e h = hBinW .geq (opnd cx mask e x) (opnd cx mask e y) h := rfl
@[simp] theorem oH_un (op : UnOp) (t : TypeId) (x : Operand) : opH (.unOp op t x) cx mask e h = bnd (opnd cx mask e x) fun a => val h (unop op a) := rfl
@[simp] theorem oH_fieldAddr (t : TypeId) (x : Operand) (f : Nat) : opH (.fieldAddr t x f) cx mask e h = bnd (fieldOf cx t f) fun fd => bnd (opnd cx mask e x) fun x => faV fd.1 h x := rfl
@[simp] theorem fieldOf_eq (t : TypeId) (f : Nat) : fieldOf cx t f = bnd (cx.ty t) fun ty => (match ty.u with | .struct fs => fs[f]? | _ => none) := by
  show (bnd (cx.ty t) fun ty => match ty.u with | .struct fs => nthD fs f | _ => none) = _
  simp
def fdW (h : H) (off : Nat) (tf : Ty) (x : T) : Option Did := match x with | .agg cs => bnd (dropN off cs) fun r => val h (readAs tf r) | _ => none
@[simp] theorem fdW_agg (off : Nat) (tf : Ty) (cs : List T) : fdW h off tf (.agg cs) = bnd (dropN off cs) fun r => val h (readAs tf r) := rfl
@[simp] theorem oH_field (t : TypeId) (x : Operand) (f : Nat) : opH (.field t x f) cx mask e h = bnd (fieldOf cx t f) fun fd => bnd (cx.ty fd.2) fun tf => bnd (opnd cx mask e x) fun x => fdW h fd.1 tf x := rfl
@[simp] theorem dropN_lit {α : Type} (x : α) (l : List α) (j : Nat) [NeZero j] : dropN (no_index (OfNat.ofNat j)) (x :: l) = dropN (j - 1) l := by
  obtain ⟨k, hk⟩ := Nat.exists_eq_succ_of_ne_zero (NeZero.ne j)
  show dropN j (x :: l) = _
  rw [hk]; rfl
@[simp] theorem takeN_lit {α : Type} (x : α) (l : List α) (j : Nat) [NeZero j] : takeN (no_index (OfNat.ofNat j)) (x :: l) = bnd (takeN (j - 1) l) fun t => some (x :: t) := by
  obtain ⟨k, hk⟩ := Nat.exists_eq_succ_of_ne_zero (NeZero.ne j)
  show takeN j (x :: l) = _
  rw [hk]; rfl
def ixW (cx : Ctx) (h : H) (ty : Ty) (x : T) (i : Nat) : Option Did := match ty.u with
    | .slice el => bnd (cx.ty el) fun te => idxSlice h te x i
    | .array n el => bnd (cx.ty el) fun te => idxArray h n te x i
    | _ => none
@[simp] theorem ixW_eq (ty : Ty) (x : T) (i : Nat) : ixW cx h ty x i = (match ty.u with
    | .slice el => bnd (cx.ty el) fun te => idxSlice h te x i
    | .array n el => bnd (cx.ty el) fun te => idxArray h n te x i
    | _ => none) := rfl
@[simp] theorem oH_indexAddr (t : TypeId) (x ix : Operand) : opH (.indexAddr t x ix) cx mask e h = bnd (cx.ty t) fun ty => bnd (opnd cx mask e x) fun x => bnd (opnd cx mask e ix) fun ix => bnd (toIdx ix) fun i => ixW cx h ty x i := rfl
@[simp] theorem idxS_tree (te : Ty) (es : List T) (f : Bool) (i : Nat) : idxSlice h te (.tree es f) i = bnd (es[i]?) fun v => chk (decide (v.cells.length = te.size)) (some (.val (.tptr v.cells) h)) := by
  show (bnd (nthD es i) fun v => chk (Nat.beq (lenN v.cells) te.size) (some (Did.val (.tptr v.cells) h))) = _
  simp
@[simp] theorem idxS_arr (te : Ty) (b ep o l : Nat) (f : Bool) (i : Nat) : idxSlice h te (.arr b ep o l f) i = chk (decide (i < l)) (bnd (h.get b) fun bx => chk (decide (bx.sz = te.size)) <| chk (decide (bx.ep = ep)) (some (.val (.ptr b ep (o + i) 0) h))) := by
  show (chk (Nat.blt i l) (bnd (h.get b) fun bx => chk (Nat.beq bx.sz te.size) <| chk (Nat.beq bx.ep ep) (bnd (normNat (Nat.add o i)) fun k => some (Did.val (.ptr b ep k 0) h)))) = _
  simp
def icW (cx : Ctx) (h : H) (ty : Ty) (x : T) (i : Nat) : Option Did := match ty.u with
    | .str => (match x with | .str s => bnd (s[i]?) fun c => some (.val (.int .u8 c) h) | _ => none)
    | .array n el => (match x with
      | .agg cs => bnd (cx.ty el) fun te => chk (decide (i < n)) (bnd (dropN (i * te.size) cs) fun r => val h (readAs te r))
      | _ => none)
    | _ => none
@[simp] theorem icW_eq (ty : Ty) (x : T) (i : Nat) : icW cx h ty x i = (match ty.u with
    | .str => (match x with | .str s => bnd (s[i]?) fun c => some (.val (.int .u8 c) h) | _ => none)
    | .array n el => (match x with
      | .agg cs => bnd (cx.ty el) fun te => chk (decide (i < n)) (bnd (dropN (i * te.size) cs) fun r => val h (readAs te r))
      | _ => none)
    | _ => none) := rfl
@[simp] theorem oH_index (t : TypeId) (x ix : Operand) : opH (.index t x ix) cx mask e h = bnd (cx.ty t) fun ty => bnd (opnd cx mask e x) fun x => bnd (opnd cx mask e ix) fun ix => bnd (toIdx ix) fun i => icW cx h ty x i := by
  show (bnd (cx.ty t) fun ty => bnd (opnd cx mask e x) fun x => bnd (opnd cx mask e ix) fun ix => bnd (toIdx ix) fun i => match ty.u with
    | .str => (match x with | .str s => bnd (nthD s i) fun c => val h (some (.int .u8 (.ofNat c))) | _ => none)
    | .array n el => (match x with
      | .agg cs => bnd (cx.ty el) fun te => chk (Nat.blt i n) (bnd (dropN (Nat.mul i te.size) cs) fun r => val h (readAs te r))
      | _ => none)
    | _ => none) = _
  simp only [nthD_eq, blt_nat, val_some]
  rfl
@[simp] theorem oH_extract (x : Operand) (i : Nat) : opH (.extract x i) cx mask e h = bnd (opnd cx mask e x) fun v => exV h v i := rfl
@[simp] theorem oH_callf (f : FuncId) (args : List Operand) (ts : Array TypeId) : opH (.call ⟨.value (.func f), args.toArray, ts⟩) cx mask e h = bnd (mapOpt (opnd cx mask e) args) fun l => some (.call f l) := by
  show (bnd (opnds cx mask e args) fun args => bnd (some (T.func f [])) fun v => match v with
    | .func f cap => bnd (appN args cap) fun l => some (Did.call f l)
    | _ => none) = _
  simp
def cloW (l : List T) (v : T) : Option Did := match v with | .func f cap => some (.call f (l ++ cap)) | _ => none
@[simp] theorem cloW_func (l : List T) (f : FuncId) (cap : List T) : cloW l (.func f cap) = some (.call f (l ++ cap)) := rfl
@[simp] theorem oH_callt (t : Tmp) (args : List Operand) (ts : Array TypeId) : opH (.call ⟨.value (.tmp t), args.toArray, ts⟩) cx mask e h = bnd (mapOpt (opnd cx mask e) args) fun l => bnd (opnd cx mask e (.tmp t)) fun v => cloW l v := by
  show (bnd (opnds cx mask e args) fun args => bnd (opnd cx mask e (.tmp t)) fun v => match v with
    | .func f cap => bnd (appN args cap) fun l => some (Did.call f l)
    | _ => none) = _
  simp only [opnds_eq, appN_eq, bnd_some]
  rfl
@[simp] theorem oH_len (args : List Operand) (t : TypeId) : opH (.call ⟨.builtin .len, args.toArray, #[t]⟩) cx mask e h = bnd (mapOpt (opnd cx mask e) args) fun l => (match l with | [x] => bLen cx h [t] x | _ => none) := rfl
def lenW (cx : Ctx) (h : H) (ty : Ty) (x : T) : Option Did := match ty.u with
    | .str => (match x with | .str s => some (.val (.int .i64 s.length) h) | _ => none)
    | .slice _ => (match x with
      | .tree es _ => some (.val (.int .i64 es.length) h)
      | .ewild => some (.val (.int .i64 0) h)
      | .arr _ _ _ l _ => some (.val (.int .i64 l) h)
      | _ => none)
    | .array n _ => some (.val (.int .i64 n) h)
    | _ => none
theorem lenW_eq (ty : Ty) (x : T) : lenW cx h ty x = (match ty.u with
    | .str => (match x with | .str s => some (.val (.int .i64 s.length) h) | _ => none)
    | .slice _ => (match x with
      | .tree es _ => some (.val (.int .i64 es.length) h)
      | .ewild => some (.val (.int .i64 0) h)
      | .arr _ _ _ l _ => some (.val (.int .i64 l) h)
      | _ => none)
    | .array n _ => some (.val (.int .i64 n) h)
    | _ => none) := rfl
@[simp] theorem lenW_str (ty : Ty) (s : List Nat) (hu : ty.u = .str) : lenW cx h ty (.str s) = some (.val (.int .i64 s.length) h) := by rw [lenW_eq, hu]
@[simp] theorem lenW_tree (ty : Ty) (es : List T) (f : Bool) (t : TypeId) (hu : ty.u = .slice t) : lenW cx h ty (.tree es f) = some (.val (.int .i64 es.length) h) := by rw [lenW_eq, hu]
@[simp] theorem lenW_wild (ty : Ty) (t : TypeId) (hu : ty.u = .slice t) : lenW cx h ty .ewild = some (.val (.int .i64 0) h) := by rw [lenW_eq, hu]
@[simp] theorem lenW_arr (ty : Ty) (b ep o l : Nat) (f : Bool) (t : TypeId) (hu : ty.u = .slice t) : lenW cx h ty (.arr b ep o l f) = some (.val (.int .i64 l) h) := by rw [lenW_eq, hu]
@[simp] theorem bLen_eq (t : TypeId) (x : T) : bLen cx h [t] x = bnd (cx.ty t) fun ty => lenW cx h ty x := by
  show (bnd (nthD [t] 0) fun t => bnd (cx.ty t) fun ty => _) = _
  simp only [nthD_eq, List.getElem?_cons_zero, bnd_some]
  congr 1; funext ty
  unfold lenW
  cases ty.u <;> first | rfl | (cases x <;> first | rfl | (simp; try rfl))
@[simp] theorem oH_min (args : List Operand) (ts : Array TypeId) : opH (.call ⟨.builtin .min, args.toArray, ts⟩) cx mask e h = bnd (mapOpt (opnd cx mask e) args) fun l => builtinT .min cx h ts.toList l := rfl
@[simp] theorem oH_max (args : List Operand) (ts : Array TypeId) : opH (.call ⟨.builtin .max, args.toArray, ts⟩) cx mask e h = bnd (mapOpt (opnd cx mask e) args) fun l => builtinT .max cx h ts.toList l := rfl
@[simp] theorem min_eq (ts : List TypeId) (k : IntKind) (a b : Int) : builtinT .min cx h ts [.int k a, .int k b] = some (.val (.int k (min a b)) h) := by
  show val h (chk (kEq k k) (rInt k (@Bool.rec (fun _ => Int) a b (ltI b a)))) = _
  rw [kEq_self, chk_true, rInt_eq, ltI_dec]
  simp only [val_some, Option.some.injEq, Did.val.injEq, T.int.injEq, true_and, and_true]
  by_cases hab : b < a
  · rw [decide_eq_true hab]; show b = min a b; omega
  · rw [decide_eq_false hab]; show a = min a b; omega
@[simp] theorem max_eq (ts : List TypeId) (k : IntKind) (a b : Int) : builtinT .max cx h ts [.int k a, .int k b] = some (.val (.int k (max a b)) h) := by
  show val h (chk (kEq k k) (rInt k (@Bool.rec (fun _ => Int) a b (ltI a b)))) = _
  rw [kEq_self, chk_true, rInt_eq, ltI_dec]
  simp only [val_some, Option.some.injEq, Did.val.injEq, T.int.injEq, true_and, and_true]
  by_cases hab : a < b
  · rw [decide_eq_true hab]; show b = max a b; omega
  · rw [decide_eq_false hab]; show a = max a b; omega
end
end Go.TI

/- Contracts of functions by walks over their own code. -/
namespace Go.TI
set_option linter.unusedVariables false
set_option linter.unusedSimpArgs false
abbrev hE : H := ⟨0, 0, []⟩
structure FnAt (P : Program) (cx : Ctx) (f : FuncId) (fn : Func) (mask : Nat) (dl : DL) : Prop where
  at_ : P.funcs[f]? = some fn
  ok : okFun ⟨fn, mask, false, none⟩ = true
  dr : drawsOk dl (fn.body.getD .skip) = true
/-- The arguments lie in the first slots. -/
def ArgsAt (vs : Vars) : Nat → List T → Prop
  | _, [] => True
  | i, a :: l => look vs i = some a ∧ ArgsAt vs (i + 1) l
@[simp] theorem ArgsAt_nil (vs : Vars) (i : Nat) : ArgsAt vs i [] = True := rfl
@[simp] theorem ArgsAt_cons (vs : Vars) (i : Nat) (a : T) (l : List T) : ArgsAt vs i (a :: l) = (look vs i = some a ∧ ArgsAt vs (i + 1) l) := rfl
theorem initVars_args (mask : Nat) : ∀ (n i : Nat) (args : List T), args.length ≤ n → ∃ vars, initVars mask n i args = some vars ∧ (∀ k, k < i → look vars k = none) ∧ ArgsAt vars i args := by
  intro n
  induction n with
  | zero =>
    intro i args hl
    have : args = [] := List.eq_nil_of_length_eq_zero (by omega)
    subst this
    exact ⟨.nil, rfl, fun _ _ => rfl, trivial⟩
  | succ n ih =>
    intro i args hl
    have mono : ∀ (l : List T) (vars : Vars) (k : Nat) (v : T) (j : Nat), k < j → ArgsAt vars j l → ArgsAt (.cons k v vars) j l := by
      intro l
      induction l with
      | nil => intro _ _ _ _ _ _; trivial
      | cons a l ihl =>
        intro vars k v j hkj ha
        exact ⟨by rw [look_cons2, if_neg (by omega)]; exact ha.1, ihl vars k v (j + 1) (by omega) ha.2⟩
    cases args with
    | nil =>
      obtain ⟨vars, h1, h2, h3⟩ := ih (i + 1) [] (by simp)
      show ∃ vars, (bnd (normNat (Nat.succ i)) fun i' => @Bool.rec (fun _ => Option Vars) (initVars mask n i' []) (bnd (initVars mask n i' []) fun t => some (.cons i .undef t)) (lasts mask i)) = some vars ∧ _
      rw [normNat_eq, bnd_some]
      cases lasts mask i with
      | false => exact ⟨vars, h1, fun k hk => h2 k (by omega), trivial⟩
      | true =>
        refine ⟨.cons i .undef vars, ?_, fun k hk => ?_, trivial⟩
        · show (bnd (initVars mask n (i + 1) []) fun t => some (Vars.cons i .undef t)) = _
          rw [h1]; rfl
        · rw [look_cons2, if_neg (by omega)]; exact h2 k (by omega)
    | cons a l =>
      obtain ⟨vars, h1, h2, h3⟩ := ih (i + 1) l (by simp at hl; omega)
      refine ⟨.cons i a vars, ?_, fun k hk => ?_, ?_, mono _ _ _ _ _ (by omega) h3⟩
      · show (bnd (normNat (Nat.succ i)) fun i' => bnd (initVars mask n i' l) fun t => some (Vars.cons i a t)) = _
        rw [normNat_eq, bnd_some, h1]; rfl
      · rw [look_cons2, if_neg (by omega)]; exact h2 k (by omega)
      · rw [look_cons2, if_pos rfl]

/-- The results, out of their slots. -/
def WRes (cx : Ctx) (mask : Nat) (res : List ResultVar) (vs : Vars) (h : H) (k : List T → Prop) : Prop := ∃ l, resultsT cx mask ⟨vs, .nil⟩ h res = some l ∧ k l
section
variable {P : Program} {cx : Ctx} {cf : CallF} {mask : Nat}
@[simp] theorem WRes_nil (vs : Vars) (h : H) (k : List T → Prop) : WRes cx mask [] vs h k = k [] := by
  apply propext; constructor
  · rintro ⟨l, hl, hk⟩
    have hl : some [] = some l := hl
    simp only [Option.some.injEq] at hl; subst hl; exact hk
  · exact fun hk => ⟨[], rfl, hk⟩
def WV (x : Option T) (k : T → Prop) : Prop := ∃ v, x = some v ∧ k v
@[simp] theorem WV_some (v : T) (k : T → Prop) : WV (some v) k = k v := by
  apply propext; constructor
  · rintro ⟨v', hv, hk⟩
    simp only [Option.some.injEq] at hv; subst hv; exact hk
  · exact fun hk => ⟨v, rfl, hk⟩
theorem WRes_cons (r : ResultVar) (res : List ResultVar) (vs : Vars) (h : H) (k : List T → Prop) : WRes cx mask (r :: res) vs h k =
    WV (ResultVar.casesOn r (fun t => Env.get mask ⟨vs, .nil⟩ t) (fun a t => bnd (Env.get mask ⟨vs, .nil⟩ a) fun p => bnd (cx.ty t) fun ty => h.load ty p)) fun v => WRes cx mask res vs h fun l => k (v :: l) := by
  apply propext
  unfold WRes WV resultsT
  simp only [mapOpt_cons]
  constructor
  · rintro ⟨l, hl, hk⟩
    obtain ⟨v, hv, hl⟩ := bnd_eq_some.1 hl
    obtain ⟨l', hl', hl⟩ := bnd_eq_some.1 hl
    simp only [Option.some.injEq] at hl; subst hl
    exact ⟨v, hv, l', hl', hk⟩
  · rintro ⟨v, hv, l', hl', hk⟩
    refine ⟨v :: l', ?_, hk⟩
    rw [hv, bnd_some, hl']; rfl
@[simp] theorem WRes_tmp (t : Tmp) (res : List ResultVar) (vs : Vars) (h : H) (k : List T → Prop) : WRes cx mask (.tmp t :: res) vs h k = WV (Env.get mask ⟨vs, .nil⟩ t) fun v => WRes cx mask res vs h fun l => k (v :: l) := WRes_cons _ res vs h k
@[simp] theorem WRes_cell (a : Tmp) (t : TypeId) (res : List ResultVar) (vs : Vars) (h : H) (k : List T → Prop) : WRes cx mask (.cell a t :: res) vs h k = WV (bnd (Env.get mask ⟨vs, .nil⟩ a) fun p => bnd (cx.ty t) fun ty => h.load ty p) fun v => WRes cx mask res vs h fun l => k (v :: l) := WRes_cons _ res vs h k

def kend (cx : Ctx) (mask : Nat) (res : List ResultVar) (k : List T → H → Prop) : Kont :=
  ⟨fun e h => WRes cx mask res e.vars h fun l => k l h, fun _ _ _ => False, fun e h => WRes cx mask res e.vars h fun l => k l h⟩
@[simp] theorem kend_n (res : List ResultVar) (k : List T → H → Prop) (e : Env) (h : H) : (kend cx mask res k).n e h = WRes cx mask res e.vars h fun l => k l h := rfl
@[simp] theorem kend_r (res : List ResultVar) (k : List T → H → Prop) (e : Env) (h : H) : (kend cx mask res k).r e h = WRes cx mask res e.vars h fun l => k l h := rfl
@[simp] theorem kend_x (res : List ResultVar) (k : List T → H → Prop) (i : Nat) (e : Env) (h : H) : (kend cx mask res k).x i e h = False := rfl
theorem W_tmps {o : Out} {res : List ResultVar} {k : List T → H → Prop} (hw : W o (kend cx mask res k)) : ∃ x e h, o = some (x, e, h) ∧ (x = .normal ∨ x = .ret) ∧ WRes cx mask res e.vars h fun l => k l h := by
  obtain ⟨x, e, h, ho, hx⟩ := hw
  cases x with
  | normal => exact ⟨_, e, h, ho, .inl rfl, hx⟩
  | exit i => exact hx.elim
  | ret => exact ⟨_, e, h, ho, .inr rfl, hx⟩
/-- The code leaves no slot of a region behind. -/
theorem results_tmps {res : List ResultVar} {e : Env} {h : H} {l : List T} (hl : resultsT cx mask ⟨e.vars, .nil⟩ h res = some l) : resultsT cx mask e h res = some l := by
  unfold resultsT at *
  induction res generalizing l with
  | nil => exact hl
  | cons r res ih =>
    rw [mapOpt_cons] at hl ⊢
    obtain ⟨v, hv, hl⟩ := bnd_eq_some.1 hl
    obtain ⟨l', hl', hl⟩ := bnd_eq_some.1 hl
    simp only [Option.some.injEq] at hl; subst hl
    have hg : ∀ s v, Env.get mask ⟨e.vars, .nil⟩ s = some v → Env.get mask e s = some v := by
      intro s v hs
      obtain ⟨vs, tm⟩ := e
      rw [get_env] at hs ⊢
      split at hs
      · rename_i hm; rw [if_pos hm]; exact hs
      · simp [look_nil2] at hs
    have hv' : (@ResultVar.rec (fun _ => Option T) (fun t => Env.get mask e t) (fun a t => bnd (Env.get mask e a) fun p => bnd (cx.ty t) fun ty => h.load ty p) r) = some v := by
      cases r with
      | tmp t => exact hg t v hv
      | cell a t =>
        have hv : (bnd (Env.get mask ⟨e.vars, .nil⟩ a) fun p => bnd (cx.ty t) fun ty => h.load ty p) = some v := hv
        obtain ⟨p, hp, hv⟩ := bnd_eq_some.1 hv
        show (bnd (Env.get mask e a) fun p => bnd (cx.ty t) fun ty => h.load ty p) = some v
        rw [hg a p hp]; exact hv
    refine bnd_eq_some.2 ⟨v, hv', bnd_eq_some.2 ⟨l', ih hl', rfl⟩⟩
end
/-- A loop that counts. -/
theorem W_for {body : Env → H → Out} (N : Nat) (J : Nat → Vars → H → Prop) {K : Kont}
    (hb : ∀ k vs h, k ≤ N → J k vs h → W (body ⟨vs, .nil⟩ h) (kinv (fun e h => e.tmps = .nil ∧ k < N ∧ J (k + 1) e.vars h) K)) {n : Nat} (hn : N < n) {k : Nat} (hk : k ≤ N) {vs : Vars} {h : H} (hJ : J k vs h) : W (loopT body n ⟨vs, .nil⟩ h) K := by
  refine W_loop (σ := Nat) (I := fun k e h => k ≤ N ∧ e.tmps = .nil ∧ J k e.vars h) (m := fun k => N - k) ?_ n k _ _ (by omega) ⟨hk, rfl, hJ⟩
  rintro k ⟨vs, tm⟩ h ⟨hk, ht, hJ⟩
  simp only at ht hJ
  subst ht
  obtain ⟨x, e, h1, ho, hx⟩ := hb k vs h hk hJ
  refine ⟨x, e, h1, ho, ?_⟩
  cases x with
  | normal => exact ⟨k + 1, by have := hx.2.1; omega, by have := hx.2.1; omega, hx.1, hx.2.2⟩
  | exit i => exact hx
  | ret => exact hx
@[simp] theorem Hp_hE : Hp hE = True := by simp [Hp]
@[simp] theorem Hp_consE (h : H) (x : Box) : Hp (h.cons x) = Hp h := by
  apply propext
  constructor
  · intro hh; unfold Hp at *; simp [H.cons] at hh; exact hh
  · exact fun hh => Hp_cons hh x
end Go.TI

/- Calls by tables of contracts: pure ones (values alone), and ones with boxes. -/
namespace Go.TI
set_option linter.unusedVariables false
set_option linter.unusedSimpArgs false

/-! ### the canonical form of a value -/
mutual
def cn : T → T
  | .tree es f => (match es with | [] => .ewild | e :: es => .tree (cnL (e :: es)) false)
  | .agg cs => .agg (cnL cs)
  | .tuple cs => .tuple (cnL cs)
  | v => v
def cnL : List T → List T
  | [] => []
  | x :: xs => cn x :: cnL xs
end
theorem cnL_eq : ∀ l : List T, cnL l = l.map cn
  | [] => by rw [cnL]; rfl
  | x :: xs => by rw [cnL, cnL_eq xs]; rfl
theorem cn_tree (es : List T) (f : Bool) : cn (.tree es f) = sl (es.map cn) := by
  cases es with
  | nil => rw [cn]; rfl
  | cons e es => rw [cn, cnL_eq]; rfl
theorem cn_agg (cs : List T) : cn (.agg cs) = .agg (cs.map cn) := by rw [cn, cnL_eq]
theorem cn_tuple (cs : List T) : cn (.tuple cs) = .tuple (cs.map cn) := by rw [cn, cnL_eq]
@[simp] theorem cn_undef  : cn .undef = .undef := by simp [cn]
@[simp] theorem cn_bool (b : Bool) : cn (.bool b) = (.bool b) := by simp [cn]
@[simp] theorem cn_int (k : IntKind) (n : Int) : cn (.int k n) = (.int k n) := by simp [cn]
@[simp] theorem cn_str (s : List Nat) : cn (.str s) = (.str s) := by simp [cn]
@[simp] theorem cn_nilp  : cn .nilp = .nilp := by simp [cn]
@[simp] theorem cn_ptr (b ep i j : Nat) : cn (.ptr b ep i j) = (.ptr b ep i j) := by simp [cn]
@[simp] theorem cn_tptr (cs : List T) : cn (.tptr cs) = (.tptr cs) := by simp [cn]
@[simp] theorem cn_ewild  : cn .ewild = .ewild := by simp [cn]
@[simp] theorem cn_arr (b ep o l : Nat) (f : Bool) : cn (.arr b ep o l f) = (.arr b ep o l f) := by simp [cn]
@[simp] theorem cn_func (f : FuncId) (cs : List T) : cn (.func f cs) = (.func f cs) := by simp [cn]
@[simp] theorem cn_nilf  : cn .nilf = .nilf := by simp [cn]
@[simp] theorem cn_nili  : cn .nili = .nili := by simp [cn]
@[simp] theorem cn_iface (t : TypeId) (v : T) : cn (.iface t v) = (.iface t v) := by simp [cn]
@[simp] theorem cn_iter (b : Nat) : cn (.iter b) = (.iter b) := by simp [cn]
@[simp] theorem cn_map (b : Nat) : cn (.map b) = (.map b) := by simp [cn]
@[simp] theorem cn_nilm  : cn .nilm = .nilm := by simp [cn]
theorem cn_scalar (v : T) : (cn v).scalar = v.scalar := by
  cases v with
  | tree es f => rw [cn_tree]; cases es <;> rfl
  | agg cs => rw [cn_agg]; rfl
  | tuple cs => rw [cn_tuple]; rfl
  | _ => simp
theorem cn_cells (v : T) : (cn v).cells = v.cells.map cn := by
  cases v with
  | tree es f => rw [cn_tree]; cases es <;> (show [_] = [_]; rw [cn_tree])
  | agg cs => rw [cn_agg]; rfl
  | tuple cs => rw [cn_tuple]; show [_] = [_]; rw [cn_tuple]
  | _ => simp [T.cells]
theorem cn_flat (es : List T) : flat (es.map cn) = (flat es).map cn := by
  induction es with
  | nil => rfl
  | cons e es ih =>
    unfold flat at *
    simp only [List.map_cons, List.flatMap_cons, ih, cn_cells, List.map_append]
theorem Closed.cn {v : T} (h : Closed v) : Closed (cn v) := by
  induction h with
  | tree es f _ ih =>
    rw [cn_tree]
    cases es with
    | nil => exact .ewild
    | cons e es =>
      exact .tree _ _ (fun v hv => by
        obtain ⟨x, hx, rfl⟩ := List.mem_map.1 (show v ∈ (e :: es).map Go.TI.cn from hv)
        exact ih x hx)
  | agg cs _ ih =>
    rw [cn_agg]
    exact .agg _ (fun v hv => by
      obtain ⟨x, hx, rfl⟩ := List.mem_map.1 hv
      exact ih x hx)
  | tptr cs h => rw [cn_tptr]; exact .tptr cs h
  | bool b => rw [cn_bool]; exact .bool b
  | int k n => rw [cn_int]; exact .int k n
  | str s => rw [cn_str]; exact .str s
  | nilp => rw [cn_nilp]; exact .nilp
  | ewild => rw [cn_ewild]; exact .ewild
  | nilf => rw [cn_nilf]; exact .nilf
  | nili => rw [cn_nili]; exact .nili
theorem RelV.cn {hp : Array Obj} {μ : Mu} {v : T} {c : Value} (h : RelV hp μ v c) : RelV hp μ (cn v) c := by
  induction h with
  | tree0 full a => rw [cn_tree]; exact .ewild a 0
  | tree e es full blk off cap sz arr t fz hn hh hl hf hu hs hc hr ih =>
    rw [cn_tree]
    show RelV hp μ (.tree (Go.TI.cn e :: es.map Go.TI.cn) false) _
    have hfl : flat (Go.TI.cn e :: es.map Go.TI.cn) = (flat (e :: es)).map Go.TI.cn := cn_flat (e :: es)
    have := RelV.tree (hp := hp) (μ := μ) (Go.TI.cn e) (es.map Go.TI.cn) false blk off cap sz arr t fz hn hh (by simpa using hl) (by simp) (fun v hv => ?_) ?_ ?_ ?_
    · simpa using this
    · have hv : v ∈ (e :: es).map Go.TI.cn := hv
      obtain ⟨x, hx, rfl⟩ := List.mem_map.1 hv
      rw [cn_cells, List.length_map]; exact hu x hx
    · rw [hfl, List.length_map]; exact hs
    · intro v hv
      rw [hfl] at hv
      obtain ⟨x, hx, rfl⟩ := List.mem_map.1 hv
      exact ⟨by rw [cn_scalar]; exact (hc x hx).1, (hc x hx).2.cn⟩
    · intro k v hk
      rw [hfl, List.getElem?_map] at hk
      cases hx : (flat (e :: es))[k]? with
      | none => rw [hx] at hk; simp at hk
      | some x => rw [hx] at hk; simp at hk; subst hk; exact ih k x hx
  | agg cells cs hs hc hr ih =>
    rw [cn_agg]
    refine .agg _ cs (by simpa using hs) (fun v hv => ?_) fun k v hk => ?_
    · obtain ⟨x, hx, rfl⟩ := List.mem_map.1 hv
      rw [cn_scalar]; exact hc x hx
    · rw [List.getElem?_map] at hk
      cases hx : cells[k]? with
      | none => rw [hx] at hk; simp at hk
      | some x => rw [hx] at hk; simp at hk; subst hk; exact ih k x hx
  | tuple vs cs hs hr ih =>
    rw [cn_tuple]
    refine .tuple _ cs (by simpa using hs) fun k v hk => ?_
    rw [List.getElem?_map] at hk
    cases hx : vs[k]? with
    | none => rw [hx] at hk; simp at hk
    | some x => rw [hx] at hk; simp at hk; subst hk; exact ih k x hx
  | tptr cells blk off arr t fz hn hh hs hc hr ih => rw [cn_tptr]; exact .tptr cells blk off arr t fz hn hh hs hc hr
  | undef => rw [cn_undef]; exact .undef
  | bool b => rw [cn_bool]; exact .bool b
  | int k n => rw [cn_int]; exact .int k n
  | str s h => rw [cn_str]; exact .str s h
  | nilp => rw [cn_nilp]; exact .nilp
  | ptr b ep i j L a hb he ha => rw [cn_ptr]; exact .ptr b ep i j L a hb he ha
  | ewild a cap => rw [cn_ewild]; exact .ewild a cap
  | arr b ep o l full L a cp hb he hl h => rw [cn_arr]; exact .arr b ep o l full L a cp hb he hl h
  | func f caps cs hs hr ih => rw [cn_func]; exact .func f caps cs hs hr
  | nilf => rw [cn_nilf]; exact .nilf
  | nili => rw [cn_nili]; exact .nili
  | iface t v c h ih => rw [cn_iface]; exact .iface t v c h
  | iter b L a hb h => rw [cn_iter]; exact .iter b L a hb h
  | map b L i hb h => rw [cn_map]; exact .map b L i hb h
  | nilm => rw [cn_nilm]; exact .nilm
theorem RelL.cn {hp : Array Obj} {μ : Mu} {vs : List T} {cs : List Value} (h : RelL hp μ vs cs) : RelL hp μ (vs.map Go.TI.cn) cs := by
  refine ⟨by simpa using h.1, fun k v hk => ?_⟩
  rw [List.getElem?_map] at hk
  cases hx : vs[k]? with
  | none => rw [hx] at hk; simp at hk
  | some x => rw [hx] at hk; simp at hk; subst hk; exact (h.2 k x hx).cn

/-! ### plain values: no memory -/
mutual
def plainB : T → Bool
  | .bool _ | .int _ _ | .str _ | .nilp | .nilf | .nili | .nilm | .ewild => true
  | .agg cs => plainBs cs
  | .tuple cs => plainBs cs
  | _ => false
def plainBs : List T → Bool
  | [] => true
  | x :: xs => plainB x && plainBs xs
end
theorem plainBs_mem {l : List T} (h : plainBs l = true) : ∀ x ∈ l, plainB x = true := by
  induction l with
  | nil => intro x hx; simp at hx
  | cons y l ih =>
    intro x hx
    rw [plainBs, Bool.and_eq_true] at h
    rcases List.mem_cons.1 hx with rfl | hx
    · exact h.1
    · exact ih h.2 x hx
theorem RelV.plain {hp hp' : Array Obj} {μ μ' : Mu} {v : T} {c : Value} (h : RelV hp μ v c) (hp0 : plainB v = true) : RelV hp' μ' v c := by
  induction h with
  | bool b => exact .bool b
  | int k n => exact .int k n
  | str s h => exact .str s h
  | nilp => exact .nilp
  | nilf => exact .nilf
  | nili => exact .nili
  | nilm => exact .nilm
  | ewild a cap => exact .ewild a cap
  | agg cells cs hs hc hr ih =>
    rw [plainB] at hp0
    exact .agg _ cs hs hc fun k v hk => ih k v hk (plainBs_mem hp0 v (List.mem_of_getElem? hk))
  | tuple vs cs hs hr ih =>
    rw [plainB] at hp0
    exact .tuple _ cs hs fun k v hk => ih k v hk (plainBs_mem hp0 v (List.mem_of_getElem? hk))
  | _ => simp [plainB] at hp0

/-! ### a pure function, called with boxes -/
section
variable {P : Program} {cx : Ctx}
theorem InMu_cut0 {μ : Mu} {i : Nat} : InMu (cutMu 0 μ) i ↔ μ.res i := by
  constructor
  · rintro (⟨b, L, hb, _⟩ | hr)
    · exact absurd (cutMu_some hb).1 (by omega)
    · exact hr
  · exact fun hr => .inr hr
theorem pure_read {f : FuncId} {args args' : List T} {r : T} {h : H} (hP : PureAt P cx f (args'.map cn) r) (hf : mapOpt (freezeVal h 0) args = some args') (hr : plainB r = true) : CallAt P cx ⟨f, args, h, r, h⟩ := by
  intro base w μ cargs s hL
  have hL' : RelL w.heap (cutMu 0 μ) args' cargs.toList := by
    have h2 : All2 (fun v v' => ∀ c, RelV w.heap μ v c → RelV w.heap (cutMu 0 μ) v' c) args args' := All2.map (fun x hx y hy c hc => freezeVal_sound s hc hy) hf
    refine ⟨by rw [← h2.length]; exact hL.1, fun k v hk => ?_⟩
    obtain ⟨x, hx, hf⟩ := h2.get hk
    exact hf _ (hL.2 k x hx)
  have s0 : St cx w.heap.size w.heap (cutMu 0 μ) hE := by
    refine ⟨rfl, Nat.le_refl _, fun b L hb => absurd (cutMu_some hb).1 (by omega), fun b b' L L' hb => absurd (cutMu_some hb).1 (by omega), fun b L hb => absurd (cutMu_some hb).1 (by omega), fun b L hb => absurd (cutMu_some hb).1 (by omega), fun i hr => s.resLt i hr, fun g cs hg => ?_⟩
    have := s.glob g cs hg
    refine this.cut ?_
    obtain ⟨_, _, _, _, _, _, _, _, _, hsh, _⟩ := this.inv_tptr
    exact .tptr _ fun v hv => (hsh v hv).2.low 0
  refine (hP w.heap.size w (cutMu 0 μ) cargs hE s0 hL'.cn).mono fun v w' ⟨⟨μ1, k1, k2, k3, k4⟩, k5⟩ => ?_
  have hold : ∀ i, i < w.heap.size → ¬ μ.res i → w'.heap[i]? = w.heap[i]? := fun i hi hn => (k3.ext.old i hi fun hh => hn (InMu_cut0.1 hh)).1
  have hext : Ext w.heap μ w'.heap μ := by
    refine ⟨k3.ext.size, fun i hi hn => ⟨hold i hi fun hr => hn (.inr hr), hn⟩, fun b L hb => ⟨L, hb, .inl rfl⟩, rfl, fun i hi hr => k3.ext.kept i hi hr⟩
  refine ⟨⟨μ, k1.plain hr, ⟨s.wf, Nat.le_trans s.fit k3.ext.size, fun b L hb => ?_, s.inj, s.low, s.apart, fun i hr => Nat.lt_of_lt_of_le (s.resLt i hr) k3.ext.size, fun g cs hg => (s.glob g cs hg).ext hext⟩, ⟨hext, k3.os, k3.tape, k3.output⟩, Dom.refl _ _⟩, Grow.refl s.wf⟩
  obtain ⟨x, hx, hok⟩ := s.box b L hb
  exact ⟨x, hx, hok.ext hext (hold L.blk (s.lt hb) (s.apart b L hb))⟩
theorem pure_weak {f : FuncId} {args : List T} {r : T} {h : H} (hP : PureAt P cx f (args.map cn) r) : CallAt P cx ⟨f, args, h, r, h⟩ :=
  fun base w μ cargs s hL => hP base w μ cargs h s hL.cn

/-! ### tables of contracts -/
/-- A pure contract: a family of arguments, and what is returned. -/
structure PRule where
  α : Type
  A : α → List T
  pre : α → Prop
  R : α → T
  inj : ∀ a b, A a = A b → R a = R b
/-- A contract with boxes. -/
structure HRule where
  pre : List T → H → Prop
  post : List T → H → T → H → Prop
structure Tabs where
  p : FuncId → Option PRule
  h : FuncId → Option HRule
open Classical in
noncomputable def rl (P : Program) (cx : Ctx) (tb : Tabs) (f : FuncId) (c : List T) : Option T := match tb.p f with
  | none => none
  | some ru => if hx : ∃ a, ru.pre a ∧ ru.A a = c ∧ PureAt P cx f c (ru.R a) then some (ru.R hx.choose) else none
open Classical in
noncomputable def hl (P : Program) (cx : Ctx) (tb : Tabs) (f : FuncId) (args : List T) (h : H) : Option (T × H) := match tb.h f with
  | none => none
  | some S => if hx : ∃ p : T × H, S.post args h p.1 p.2 ∧ CallAt P cx ⟨f, args, h, p.1, p.2⟩ then some hx.choose else none
/-! what a value is frozen to, in canonical form -/
noncomputable def fzD (h : H) (d : Nat) (v : T) : Option T := bnd (freeze h 0 d v) fun v => some (cn v)
noncomputable def fz (h : H) (v : T) : Option T := bnd (freezeCell h 0 v) fun v => some (cn v)
noncomputable def fzV (h : H) (v : T) : Option T := bnd (freezeVal h 0 v) fun v => some (cn v)
noncomputable def azC (h : H) (args : List T) : Option (List T) := mapOpt (fzV h) args
mutual
/-- Nothing but values and trees. -/
def shutB : T → Bool
  | .bool _ | .int _ _ | .str _ | .nilp | .tree _ _ | .ewild | .nilf | .nili => true
  | .agg cs => shutBs cs
  | _ => false
def shutBs : List T → Bool
  | [] => true
  | x :: xs => shutB x && shutBs xs
end
noncomputable def cfT (P : Program) (cx : Ctx) (tb : Tabs) : CallF := fun f args h => match azC h args with
  | none => hl P cx tb f args h
  | some c => match rl P cx tb f c with
    | none => hl P cx tb f args h
    | some r => if (plainB r || shutBs args) = true then some (r, h) else hl P cx tb f args h
theorem mapOpt_bnd {α β γ : Type} (f : α → Option β) (g : β → γ) : ∀ l : List α, mapOpt (fun x => bnd (f x) fun y => some (g y)) l = bnd (mapOpt f l) fun r => some (r.map g) := by
  intro l
  induction l with
  | nil => rfl
  | cons x l ih =>
    rw [mapOpt_cons, mapOpt_cons, ih]
    cases f x with
    | none => rfl
    | some y => simp only [bnd_some]; cases mapOpt f l <;> rfl
theorem azC_some {h : H} {args c : List T} (hh : azC h args = some c) : ∃ l, mapOpt (freezeVal h 0) args = some l ∧ c = l.map cn := by
  unfold azC fzV at hh
  rw [mapOpt_bnd] at hh
  obtain ⟨l, hl, hh⟩ := bnd_eq_some.1 hh
  simp only [Option.some.injEq] at hh
  exact ⟨l, hl, hh.symm⟩
mutual
theorem freeze_shut (h : H) (n d : Nat) : (v : T) → shutB v = true → (∀ cs, v ≠ .agg cs) → freeze h n (d + 1) v = some v
  | .bool _, _, _ => rfl
  | .int _ _, _, _ => rfl
  | .str _, _, _ => rfl
  | .nilp, _, _ => rfl
  | .tree _ _, _, _ => rfl
  | .ewild, _, _ => rfl
  | .nilf, _, _ => rfl
  | .nili, _, _ => rfl
  | .agg cs, _, hn => absurd rfl (hn cs)
  | .undef, hh, _ => by simp [shutB] at hh
  | .ptr .., hh, _ => by simp [shutB] at hh
  | .tptr _, hh, _ => by simp [shutB] at hh
  | .arr .., hh, _ => by simp [shutB] at hh
  | .func .., hh, _ => by simp [shutB] at hh
  | .iface .., hh, _ => by simp [shutB] at hh
  | .iter _, hh, _ => by simp [shutB] at hh
  | .map _, hh, _ => by simp [shutB] at hh
  | .nilm, hh, _ => by simp [shutB] at hh
  | .tuple _, hh, _ => by simp [shutB] at hh
end
theorem freezeCell_shut (h : H) {v : T} (hv : shutB v = true) (hn : ∀ cs, v ≠ .agg cs) : freezeCell h 0 v = some v := by
  have := freeze_shut h 0 11 v hv hn
  cases v <;> first | exact this | (simp [shutB] at hv)
theorem shutBs_mem {l : List T} (h : shutBs l = true) : ∀ x ∈ l, shutB x = true := by
  induction l with
  | nil => intro x hx; simp at hx
  | cons y l ih =>
    intro x hx
    rw [shutBs, Bool.and_eq_true] at h
    rcases List.mem_cons.1 hx with rfl | hx
    · exact h.1
    · exact ih h.2 x hx
/-- Cells that are no aggregates. -/
def NoAgg (v : T) : Prop := ∀ cs, v = .agg cs → ∀ x ∈ cs, ∀ cs', x ≠ .agg cs'
theorem azC_shut {h : H} {args c : List T} {base : Nat} {hp : Array Obj} {μ : Mu} {cs : List Value} (hL : RelL hp μ args cs) (hs : shutBs args = true) (hh : azC h args = some c) : c = args.map cn := by
  obtain ⟨l, hl, rfl⟩ := azC_some hh
  have : mapOpt (freezeVal h 0) args = some args := by
    refine mapOpt_self fun x hx => ?_
    have hx' := shutBs_mem hs x hx
    obtain ⟨v, hv⟩ := hL.mem hx
    cases x with
    | agg es =>
      show (bnd (mapOpt (freezeCell h 0) es) fun r => some (T.agg r)) = _
      obtain ⟨ca, rfl, _, hsc⟩ := hv.inv_agg
      rw [mapOpt_self fun y hy => freezeCell_shut h (shutBs_mem (by rw [shutB] at hx'; exact hx') y hy) (fun cs' he => by have := hsc y hy; rw [he] at this; simp [T.scalar] at this)]
      rfl
    | _ => exact freezeCell_shut h hx' (fun cs' he => by simp at he)
  rw [this] at hl
  simp only [Option.some.injEq] at hl
  rw [hl]
theorem rl_sound {tb : Tabs} {f : FuncId} {c : List T} {r : T} (hh : rl P cx tb f c = some r) : PureAt P cx f c r := by
  unfold rl at hh
  split at hh
  · simp at hh
  · split at hh
    · rename_i hx
      simp only [Option.some.injEq] at hh; subst hh
      exact hx.choose_spec.2.2
    · simp at hh
theorem hl_sound {tb : Tabs} {f : FuncId} {args : List T} {h h' : H} {r : T} (hh : hl P cx tb f args h = some (r, h')) : CallAt P cx ⟨f, args, h, r, h'⟩ := by
  unfold hl at hh
  split at hh
  · simp at hh
  · split at hh
    · rename_i hx
      simp only [Option.some.injEq] at hh
      have := hx.choose_spec.2
      rw [hh] at this; exact this
    · simp at hh
theorem cfT_ok (P : Program) (cx : Ctx) (tb : Tabs) : CallOk P cx (cfT P cx tb) := by
  intro f args h r h' hh base w μ cargs s hL
  unfold cfT at hh
  split at hh
  · exact hl_sound hh base w μ cargs s hL
  · rename_i c hc
    split at hh
    · exact hl_sound hh base w μ cargs s hL
    · rename_i r' hr
      split at hh
      · rename_i hb
        simp only [Option.some.injEq, Prod.mk.injEq] at hh
        obtain ⟨rfl, rfl⟩ := hh
        rw [Bool.or_eq_true] at hb
        rcases hb with hb | hb
        · obtain ⟨l, hl, rfl⟩ := azC_some hc
          exact pure_read (rl_sound hr) hl hb base w μ cargs s hL
        · have hc' := azC_shut (base := base) hL hb hc
          subst hc'
          exact pure_weak (rl_sound hr) base w μ cargs s hL
      · exact hl_sound hh base w μ cargs s hL
/-- A pure contract holds. -/
def PRule.Ok (P : Program) (cx : Ctx) (f : FuncId) (ru : PRule) : Prop := ∀ a, ru.pre a → PureAt P cx f (ru.A a) (ru.R a)
theorem rl_of {tb : Tabs} {f : FuncId} {ru : PRule} (ht : tb.p f = some ru) (hok : ru.Ok P cx f) (a : ru.α) (ha : ru.pre a) : rl P cx tb f (ru.A a) = some (ru.R a) := by
  have hx : ∃ b, ru.pre b ∧ ru.A b = ru.A a ∧ PureAt P cx f (ru.A a) (ru.R b) := ⟨a, ha, rfl, hok a ha⟩
  unfold rl
  rw [ht]
  simp only
  rw [dif_pos hx, ru.inj _ _ hx.choose_spec.2.1]
def HRule.Ok (P : Program) (cx : Ctx) (f : FuncId) (S : HRule) : Prop := ∀ args h, S.pre args h → ∃ r h', S.post args h r h' ∧ CallAt P cx ⟨f, args, h, r, h'⟩
theorem hl_of {tb : Tabs} {f : FuncId} {S : HRule} (ht : tb.h f = some S) (hok : S.Ok P cx f) {args : List T} {h : H} (hp : S.pre args h) : ∃ r h', hl P cx tb f args h = some (r, h') ∧ S.post args h r h' := by
  obtain ⟨r, h', h1, h2⟩ := hok args h hp
  have hx : ∃ p : T × H, S.post args h p.1 p.2 ∧ CallAt P cx ⟨f, args, h, p.1, p.2⟩ := ⟨(r, h'), h1, h2⟩
  refine ⟨hx.choose.1, hx.choose.2, ?_, hx.choose_spec.1⟩
  unfold hl
  rw [ht]
  simp only
  rw [dif_pos hx]
theorem rl_none {tb : Tabs} {f : FuncId} (ht : tb.p f = none) (c : List T) : rl P cx tb f c = none := by unfold rl; rw [ht]
/-- What comes of a call of a pure function. -/
noncomputable def cfV (x : Option T) (b : Bool) (h : H) (k : Option (T × H)) : Option (T × H) := match x with
  | none => k
  | some r => if (plainB r || b) = true then some (r, h) else k
@[simp] theorem cfV_none (b : Bool) (h : H) (k : Option (T × H)) : cfV none b h k = k := id rfl
@[simp] theorem cfV_some (r : T) (b : Bool) (h : H) (k : Option (T × H)) : cfV (some r) b h k = if (plainB r || b) = true then some (r, h) else k := id rfl
noncomputable def cfW (P : Program) (cx : Ctx) (tb : Tabs) (f : FuncId) (args : List T) (h : H) (c : Option (List T)) : Option (T × H) := match c with
  | none => hl P cx tb f args h
  | some c => cfV (rl P cx tb f c) (shutBs args) h (hl P cx tb f args h)
@[simp] theorem cfW_none (tb : Tabs) (f : FuncId) (args : List T) (h : H) : cfW P cx tb f args h none = hl P cx tb f args h := id rfl
@[simp] theorem cfW_some (tb : Tabs) (f : FuncId) (args c : List T) (h : H) : cfW P cx tb f args h (some c) = cfV (rl P cx tb f c) (shutBs args) h (hl P cx tb f args h) := id rfl
theorem cfT_eq (tb : Tabs) (f : FuncId) (args : List T) (h : H) : cfT P cx tb f args h = cfW P cx tb f args h (azC h args) := by
  unfold cfT cfW cfV
  cases azC h args with
  | none => rfl
  | some c => rfl
end
end Go.TI

/- Walks: what is frozen, the heap, slices. -/
namespace Go.TI
set_option linter.unusedVariables false
set_option linter.unusedSimpArgs false
section
variable {cx : Ctx} {h : H}
/-! ### numbers -/
/-! ### freezing -/
@[simp] theorem fz_int (k : IntKind) (n : Int) : fz h (.int k n) = some (.int k n) := id rfl
@[simp] theorem fz_bool (b : Bool) : fz h (.bool b) = some (.bool b) := id rfl
@[simp] theorem fz_str (s : List Nat) : fz h (.str s) = some (.str s) := id rfl
@[simp] theorem fz_nilp : fz h .nilp = some .nilp := id rfl
@[simp] theorem fz_ewild : fz h .ewild = some .ewild := id rfl
@[simp] theorem fz_nilf : fz h .nilf = some .nilf := id rfl
@[simp] theorem fz_tree (es : List T) (f : Bool) : fz h (.tree es f) = some (sl (es.map cn)) := by
  show some (cn (.tree es f)) = _; rw [cn_tree]
@[simp] theorem fz_ptr (b ep i j : Nat) : fz h (.ptr b ep i j) = none := by
  unfold fz freezeCell; simp
@[simp] theorem fz_func (f : FuncId) (cs : List T) : fz h (.func f cs) = none := id rfl
@[simp] theorem fz_undef : fz h .undef = some .undef := by
  show some (cn .undef) = _; simp
@[simp] theorem fzD_int (d : Nat) (k : IntKind) (n : Int) : fzD h (d + 1) (.int k n) = some (.int k n) := id rfl
@[simp] theorem fzD_bool (d : Nat) (b : Bool) : fzD h (d + 1) (.bool b) = some (.bool b) := id rfl
@[simp] theorem fzD_str (d : Nat) (s : List Nat) : fzD h (d + 1) (.str s) = some (.str s) := id rfl
@[simp] theorem fzD_ewild (d : Nat) : fzD h (d + 1) .ewild = some .ewild := id rfl
@[simp] theorem fzD_tree (d : Nat) (es : List T) (f : Bool) : fzD h (d + 1) (.tree es f) = some (sl (es.map cn)) := by
  show some (cn (.tree es f)) = _; rw [cn_tree]
@[simp] theorem fzD_agg (d : Nat) (cs : List T) : fzD h (d + 1) (.agg cs) = bnd (mapOpt (fzD h d) cs) fun r => some (.agg r) := by
  show (bnd (bnd (mapOpt (freeze h 0 d) cs) fun r => some (T.agg r)) fun v => some (cn v)) = _
  unfold fzD
  rw [mapOpt_bnd]
  cases mapOpt (freeze h 0 d) cs with
  | none => rfl
  | some r => simp [cn_agg]
theorem items_arr (b ep o l : Nat) (f : Bool) : h.items (.arr b ep o l f) = bnd (h.get b) fun x => chk (decide (x.ep = ep)) (if x.it = true then none else if o + l ≤ x.elems.length then some ((x.elems.drop o).take l) else none) := by
  show (bnd (h.get b) fun x => Box.casesOn x fun _ ep' _ _ it elems => chk (Nat.beq ep' ep) (Bool.casesOn it (bnd (dropN o elems) fun r => takeN l r) none)) = _
  cases h.get b with
  | none => rfl
  | some x =>
    obtain ⟨sz, ep', ver, ex, it, es⟩ := x
    simp only [bnd_some, beq_nat]
    congr 1
    cases it with
    | true => rfl
    | false =>
      simp only [Bool.false_eq_true, if_false, dropN_eq, takeN_eq]
      by_cases h1 : o ≤ es.length
      · rw [if_pos h1, bnd_some]
        by_cases h2 : o + l ≤ es.length
        · rw [if_pos h2, if_pos (by simp; omega)]
        · rw [if_neg h2, if_neg (by simp; omega)]
      · rw [if_neg h1, if_neg (by omega)]; rfl
theorem freeze_arr (d b ep o l : Nat) (f : Bool) : fzD h (d + 1) (.arr b ep o l f) = bnd (h.items (.arr b ep o l f)) fun es => bnd (mapOpt (fzD h d) es) fun r => some (sl r) := by
  have h0 : freeze h 0 (d + 1) (.arr b ep o l f) = chk (Nat.ble 0 b) (bnd (h.get b) fun x => Box.casesOn x fun _ ep' _ exact it elems =>
        chk (Nat.beq ep' ep) (@Bool.rec (fun _ => Option T) (bnd (bnd (dropN o elems) fun r => takeN l r) fun es => bnd (mapOpt (freeze h 0 d) es) fun es' =>
          @List.rec T (fun _ => Option T) (@List.rec T (fun _ => Option T) (@Bool.rec (fun _ => Option T) (some T.ewild) (some (T.tree [] false)) exact) (fun _ _ _ => some T.ewild) elems) (fun _ _ _ => some (T.tree es' f)) es') none it)) := rfl
  have h1 : h.items (.arr b ep o l f) = bnd (h.get b) fun x => Box.casesOn x fun _ ep' _ _ it elems => chk (Nat.beq ep' ep) (@Bool.rec (fun _ => Option (List T)) (bnd (dropN o elems) fun r => takeN l r) none it) := rfl
  unfold fzD
  rw [h0, h1]
  rw [show Nat.ble 0 b = true by simp, chk_true]
  cases h.get b with
  | none => rfl
  | some x =>
    obtain ⟨sz, ep', ver, ex, it, es⟩ := x
    simp only [bnd_some]
    cases Nat.beq ep' ep with
    | false => rfl
    | true =>
      simp only [chk_true]
      cases it with
      | true => rfl
      | false =>
        simp only
        cases (bnd (dropN o es) fun r => takeN l r) with
        | none => rfl
        | some es1 =>
          simp only [bnd_some]
          rw [mapOpt_bnd]
          cases mapOpt (freeze h 0 d) es1 with
          | none => rfl
          | some es2 =>
            simp only [bnd_some]
            cases es2 with
            | nil =>
              cases es with
              | nil => cases ex <;> simp [cn_tree, sl]
              | cons => simp [sl]
            | cons x r => simp [cn_tree]
@[simp] theorem fz_arr (b ep o l : Nat) (f : Bool) : fz h (.arr b ep o l f) = bnd (h.items (.arr b ep o l f)) fun es => bnd (mapOpt (fzD h 11) es) fun r => some (sl r) := by
  rw [← freeze_arr]
  unfold fz fzD freezeCell
  simp only
  rw [show Nat.ble 0 b = true by simp]
theorem cn_sl (es : List T) : cn (sl es) = sl (es.map cn) := by
  cases es with
  | nil => rfl
  | cons x r => exact cn_tree (x :: r) false
theorem fz_sl (es : List T) : fz h (sl es) = some (sl (es.map cn)) := by cases es <;> first | rfl | exact fz_tree _ _
theorem fzD_sl (d : Nat) (es : List T) : fzD h (d + 1) (sl es) = some (sl (es.map cn)) := by cases es <;> first | rfl | exact fzD_tree d _ _
@[simp] theorem cn_slm {α : Type} (f : α → T) (l : List α) (hf : ∀ x, cn (f x) = f x) : cn (sl (l.map f)) = sl (l.map f) := by
  rw [cn_sl, List.map_map]; congr 2; funext x; exact hf x
@[simp] theorem fz_slm {α : Type} (f : α → T) (l : List α) (hf : ∀ x, cn (f x) = f x) : fz h (sl (l.map f)) = some (sl (l.map f)) := by
  rw [fz_sl, List.map_map]; congr 3; funext x; exact hf x
@[simp] theorem fzD_slm {α : Type} (d : Nat) (f : α → T) (l : List α) (hf : ∀ x, cn (f x) = f x) : fzD h (d + 1) (sl (l.map f)) = some (sl (l.map f)) := by
  rw [fzD_sl, List.map_map]; congr 3; funext x; exact hf x
@[simp] theorem mapOpt_m {α : Type} (g : T → Option T) (f : α → T) (l : List α) (hf : ∀ x, g (f x) = some (f x)) : mapOpt g (l.map f) = some (l.map f) := mapOpt_self fun x hx => by
  obtain ⟨y, _, rfl⟩ := List.mem_map.1 hx; exact hf y
@[simp] theorem fzV_agg (cs : List T) : fzV h (.agg cs) = bnd (mapOpt (fz h) cs) fun r => some (.agg r) := by
  show (bnd (bnd (mapOpt (freezeCell h 0) cs) fun r => some (T.agg r)) fun v => some (cn v)) = _
  unfold fz
  rw [mapOpt_bnd]
  cases mapOpt (freezeCell h 0) cs with
  | none => rfl
  | some r => simp [cn_agg]
@[simp] theorem fzV_int (k : IntKind) (n : Int) : fzV h (.int k n) = some (.int k n) := id rfl
@[simp] theorem fzV_bool (b : Bool) : fzV h (.bool b) = some (.bool b) := id rfl
@[simp] theorem fzV_str (s : List Nat) : fzV h (.str s) = some (.str s) := id rfl
@[simp] theorem fzV_nilp : fzV h .nilp = some .nilp := id rfl
@[simp] theorem fzV_ewild : fzV h .ewild = some .ewild := id rfl
@[simp] theorem fzV_tree (es : List T) (f : Bool) : fzV h (.tree es f) = fz h (.tree es f) := id rfl
@[simp] theorem fzV_sl (es : List T) : fzV h (sl es) = fz h (sl es) := by cases es <;> rfl
@[simp] theorem fzV_arr (b ep o l : Nat) (f : Bool) : fzV h (.arr b ep o l f) = fz h (.arr b ep o l f) := id rfl
@[simp] theorem fzV_ptr (b ep i j : Nat) : fzV h (.ptr b ep i j) = none := fz_ptr (h := h) b ep i j
@[simp] theorem fzV_func (f : FuncId) (cs : List T) : fzV h (.func f cs) = none := id rfl
@[simp] theorem azC_nil : azC h [] = some [] := id rfl
@[simp] theorem azC_cons (v : T) (l : List T) : azC h (v :: l) = bnd (fzV h v) fun x => bnd (azC h l) fun r => some (x :: r) := id rfl
@[simp] theorem shutBs_nil : shutBs [] = true := by rw [shutBs]
@[simp] theorem shutBs_cons (x : T) (l : List T) : shutBs (x :: l) = (shutB x && shutBs l) := by rw [shutBs]
@[simp] theorem shutB_int (k : IntKind) (n : Int) : shutB (.int k n) = true := by rw [shutB]
@[simp] theorem shutB_bool (b : Bool) : shutB (.bool b) = true := by rw [shutB]
@[simp] theorem shutB_str (s : List Nat) : shutB (.str s) = true := by rw [shutB]
@[simp] theorem shutB_tree (es : List T) (f : Bool) : shutB (.tree es f) = true := by rw [shutB]
@[simp] theorem shutB_ewild : shutB .ewild = true := by rw [shutB]
@[simp] theorem shutB_nilp : shutB .nilp = true := by rw [shutB]
@[simp] theorem shutB_sl (es : List T) : shutB (sl es) = true := by cases es <;> simp [sl]
@[simp] theorem shutB_agg (cs : List T) : shutB (.agg cs) = shutBs cs := by rw [shutB]
@[simp] theorem shutB_arr (b ep o l : Nat) (f : Bool) : shutB (.arr b ep o l f) = false := by simp [shutB]
@[simp] theorem shutB_ptr (b ep i j : Nat) : shutB (.ptr b ep i j) = false := by simp [shutB]
@[simp] theorem plainBs_nil : plainBs [] = true := by rw [plainBs]
@[simp] theorem plainBs_cons (x : T) (l : List T) : plainBs (x :: l) = (plainB x && plainBs l) := by rw [plainBs]
@[simp] theorem plainB_int (k : IntKind) (n : Int) : plainB (.int k n) = true := by rw [plainB]
@[simp] theorem plainB_bool (b : Bool) : plainB (.bool b) = true := by rw [plainB]
@[simp] theorem plainB_str (s : List Nat) : plainB (.str s) = true := by rw [plainB]
@[simp] theorem plainB_ewild : plainB .ewild = true := by rw [plainB]
@[simp] theorem plainB_agg (cs : List T) : plainB (.agg cs) = plainBs cs := by rw [plainB]
@[simp] theorem plainB_tuple (cs : List T) : plainB (.tuple cs) = plainBs cs := by rw [plainB]
@[simp] theorem lowB_sl (es : List T) : lowB (sl es) = lowBs es := by cases es <;> simp [sl]
@[simp] theorem lowBs_m {α : Type} (f : α → T) (l : List α) (hf : ∀ x, lowB (f x) = true) : lowBs (l.map f) = true := lowBs_map f hf l
/-! ### slices -/
@[simp] theorem cells_sl (es : List T) : (sl es).cells = [sl es] := by cases es <;> rfl
@[simp] theorem good_sl (es : List T) : (sl es).good = true := by cases es <;> rfl
@[simp] theorem good_arr (b ep o l : Nat) (f : Bool) : (T.arr b ep o l f).good = true := id rfl
@[simp] theorem good_ptr (b ep i j : Nat) : (T.ptr b ep i j).good = true := id rfl
@[simp] theorem good_wild : T.ewild.good = true := id rfl
@[simp] theorem cells_arr (b ep o l : Nat) (f : Bool) : (T.arr b ep o l f).cells = [.arr b ep o l f] := id rfl
@[simp] theorem cells_ptr (b ep i j : Nat) : (T.ptr b ep i j).cells = [.ptr b ep i j] := id rfl
@[simp] theorem lenW_sl (ty : Ty) (es : List T) (t : TypeId) (hu : ty.u = .slice t) : lenW cx h ty (sl es) = some (.val (.int .i64 es.length) h) := by cases es <;> simp [sl, hu]
@[simp] theorem idxS_sl (te : Ty) (es : List T) (i : Nat) : idxSlice h te (sl es) i = bnd (es[i]?) fun v => chk (decide (v.cells.length = te.size)) (some (.val (.tptr v.cells) h)) := by cases es <;> simp [sl]; rfl
@[simp] theorem items_sl (es : List T) : h.items (sl es) = some es := by cases es <;> rfl
@[simp] theorem items_tree (es : List T) (f : Bool) : h.items (.tree es f) = some es := id rfl
@[simp] theorem items_wild : h.items .ewild = some [] := id rfl
theorem sl_inj {a b : List T} (hh : sl a = sl b) : a = b := by
  cases a <;> cases b <;> simp [sl] at hh
  · rfl
  · rw [hh.1, hh.2]
theorem slm_inj {α : Type} {f : α → T} (hf : ∀ x y, f x = f y → x = y) {a b : List α} (hh : sl (a.map f) = sl (b.map f)) : a = b := by
  have := sl_inj hh
  exact (List.map_inj_right hf).1 this
/-! ### the heap -/
@[simp] theorem get_consN (x : Box) (b : Nat) : (h.cons x).get b = if b = h.size then some x else h.get b := by
  rw [H.get_eq, H.get_eq]
  show (if b < h.size + 1 then (x :: h.boxes)[h.size + 1 - 1 - b]? else none) = _
  by_cases hb : b = h.size
  · subst hb; rw [if_pos (by omega), if_pos rfl]; simp
  · rw [if_neg hb]
    by_cases hlt : b < h.size
    · rw [if_pos (by omega), if_pos hlt, show h.size + 1 - 1 - b = (h.size - 1 - b) + 1 by omega]; simp
    · rw [if_neg (by omega), if_neg hlt]
@[simp] theorem get_hE (b : Nat) : H.get hE b = none := by rw [H.get_eq]; simp
theorem putB_get {b : Nat} {x : Box} (hg : h.get b = some x) (y : Box) (c : Nat) : (putB h b y).get c = if c = b then some y else h.get c := by
  have hp := put_some hg y
  generalize putB h b y = h' at *
  obtain ⟨size, low, boxes⟩ := h
  have hb : b < size := H.get_lt hg
  have hp : (chk (Nat.blt b size) (bnd (setNth boxes (Nat.sub (Nat.sub size 1) b) y) fun bs => @Bool.rec (fun _ => Option H) (some ⟨size, low, bs⟩) (some ⟨size, b, bs⟩) (Nat.blt b low))) = some h' := hp
  rw [show Nat.blt b size = true by rw [Nat.blt_eq]; exact hb, chk_true, setNth_eq] at hp
  by_cases hl : Nat.sub (Nat.sub size 1) b < boxes.length
  · rw [if_pos hl, bnd_some] at hp
    have key : h'.size = size ∧ h'.boxes = boxes.set (size - 1 - b) y := by
      cases hlw : Nat.blt b low <;> rw [hlw] at hp <;> simp only [Option.some.injEq] at hp <;> subst hp <;> exact ⟨rfl, rfl⟩
    obtain ⟨k1, k2⟩ := key
    rw [H.get_eq, H.get_eq, k1, k2]
    have hl : size - 1 - b < boxes.length := hl
    by_cases hc : c = b
    · subst hc
      rw [if_pos hb, if_pos rfl]
      simp [List.getElem?_set, hl]
    · rw [if_neg hc]
      simp only
      by_cases hlt : c < size
      · rw [if_pos hlt, if_pos hlt, List.getElem?_set_ne (by omega)]
      · rw [if_neg hlt, if_neg hlt]
  · rw [if_neg hl] at hp; simp at hp
@[simp] theorem putB_size (b : Nat) (y : Box) : (putB h b y).size = h.size := by
  unfold putB
  cases hp : h.put b y with
  | none => rfl
  | some h' =>
    obtain ⟨size, low, boxes⟩ := h
    have hp : (chk (Nat.blt b size) (bnd (setNth boxes (Nat.sub (Nat.sub size 1) b) y) fun bs => @Bool.rec (fun _ => Option H) (some ⟨size, low, bs⟩) (some ⟨size, b, bs⟩) (Nat.blt b low))) = some h' := hp
    obtain ⟨_, hp⟩ := chk_eq_some.1 hp
    obtain ⟨bs, _, hp⟩ := bnd_eq_some.1 hp
    show h'.size = size
    cases hlw : Nat.blt b low <;> rw [hlw] at hp <;> simp only [Option.some.injEq] at hp <;> subst hp <;> rfl
@[simp] theorem Hp_putB (b : Nat) (y : Box) : Hp (putB h b y) = Hp h := by
  unfold putB
  cases hp : h.put b y with
  | none => rfl
  | some h' =>
    obtain ⟨size, low, boxes⟩ := h
    have hp : (chk (Nat.blt b size) (bnd (setNth boxes (Nat.sub (Nat.sub size 1) b) y) fun bs => @Bool.rec (fun _ => Option H) (some ⟨size, low, bs⟩) (some ⟨size, b, bs⟩) (Nat.blt b low))) = some h' := hp
    obtain ⟨_, hp⟩ := chk_eq_some.1 hp
    obtain ⟨bs, hb, hp⟩ := bnd_eq_some.1 hp
    rw [setNth_eq] at hb
    split at hb
    · simp only [Option.some.injEq] at hb
      subst hb
      show Hp h' = _
      unfold Hp
      cases hlw : Nat.blt b low <;> rw [hlw] at hp <;> simp only [Option.some.injEq] at hp <;> subst hp <;> simp
    · simp at hb
@[simp] theorem sameVer_self (b : Nat) : sameVer h h b = true := by
  unfold sameVer
  cases h.get b <;> simp
@[simp] theorem sameVer_cons (x : Box) (b : Nat) : sameVer h (h.cons x) b = true := by
  unfold sameVer
  cases hg : h.get b with
  | none => rfl
  | some y =>
    have := H.get_lt hg
    simp only [get_consN, if_neg (show ¬ b = h.size by omega), hg, Nat.beq_refl]
theorem sameVer_put {c : Nat} {x : Box} (hg : h.get c = some x) (y : Box) {b : Nat} (hb : b ≠ c) : sameVer h (putB h c y) b = true := by
  unfold sameVer
  rw [putB_get hg, if_neg hb]
  cases h.get b <;> simp
/-! ### the end -/
noncomputable def finC (h : H) (l : List T) : Option T := bnd (freezeTop h 0 (oneOrTuple l)) fun v => some (cn v)
@[simp] theorem finC_1 (v : T) (hv : v.good = true) : finC h [v] = fzV h v := by
  cases v <;> first | rfl | (simp [T.good] at hv)
theorem fzTop_tuple (l : List T) : (bnd (freezeTop h 0 (.tuple l)) fun v => some (cn v)) = bnd (mapOpt (fzV h) l) fun r => some (.tuple r) := by
  show (bnd (bnd (mapOpt (freezeVal h 0) l) fun r => some (T.tuple r)) fun v => some (cn v)) = _
  unfold fzV
  rw [mapOpt_bnd]
  cases mapOpt (freezeVal h 0) l with
  | none => rfl
  | some r => simp [cn_tuple]
@[simp] theorem finC_0 : finC h [] = some (.tuple []) := fzTop_tuple []
@[simp] theorem finC_2 (v w : T) (l : List T) : finC h (v :: w :: l) = bnd (mapOpt (fzV h) (v :: w :: l)) fun r => some (.tuple r) := fzTop_tuple (v :: w :: l)
def Fin0 (h : H) (l : List T) (r : T) : Prop := Hp h ∧ finC h l = some r
theorem Fin0_eq (l : List T) (r : T) : Fin0 h l r = (Hp h ∧ finC h l = some r) := rfl
attribute [simp] Fin0_eq
end
section
variable {P : Program} {cx : Ctx} {cf : CallF} {mask : Nat}
/-- The table of pure contracts, out of a list. -/
def pt : List (Nat × PRule) → FuncId → Option PRule
  | [], _ => none
  | (a, r) :: l, f => if f = a then some r else pt l f
def ht : List (Nat × HRule) → FuncId → Option HRule
  | [], _ => none
  | (a, r) :: l, f => if f = a then some r else ht l f
@[simp] theorem pt_nil (f : FuncId) : pt [] f = none := id rfl
@[simp] theorem pt_cons (a : Nat) (r : PRule) (l : List (Nat × PRule)) (f : FuncId) : pt ((a, r) :: l) f = if f = a then some r else pt l f := id rfl
@[simp] theorem ht_nil (f : FuncId) : ht [] f = none := id rfl
@[simp] theorem ht_cons (a : Nat) (r : HRule) (l : List (Nat × HRule)) (f : FuncId) : ht ((a, r) :: l) f = if f = a then some r else ht l f := id rfl
/-- A loop that counts a slice's elements: a round, the end. -/
theorem W_each {body : Env → H → Out} (N : Nat) (hN : N < 9223372036854775808) (J : Nat → Vars → H → Prop) {K : Kont}
    (hb : ∀ k vs h, k < N → binop .add (.int .i64 (k : Int)) (.int .i64 1) = some (.int .i64 ((k : Int) + 1)) → J k vs h → W (body ⟨vs, .nil⟩ h) (kinv (fun e h => e.tmps = .nil ∧ J (k + 1) e.vars h) K))
    (hx : ∀ vs h, J N vs h → W (body ⟨vs, .nil⟩ h) (kinv (fun e h => False) K))
    {n : Nat} (hn : N < n) {vs : Vars} {h : H} (hJ : J 0 vs h) : W (loopT body n ⟨vs, .nil⟩ h) K := by
  refine W_for N J (fun k vs h hk hJ => ?_) hn (Nat.zero_le N) hJ
  rcases Nat.lt_or_ge k N with hlt | hge
  · obtain ⟨x, e, h1, ho, hx⟩ := hb k vs h hlt (binop_add (by omega) (by omega)) hJ
    refine ⟨x, e, h1, ho, ?_⟩
    cases x with
    | normal => exact ⟨hx.1, hlt, hx.2⟩
    | exit i => exact hx
    | ret => exact hx
  · have : k = N := by omega
    subst this
    obtain ⟨x, e, h1, ho, hx⟩ := hx vs h hJ
    refine ⟨x, e, h1, ho, ?_⟩
    cases x with
    | normal => exact hx.elim
    | exit i => exact hx
    | ret => exact hx
theorem body_of {fn : Func} (hok : okFun ⟨fn, mask, false, none⟩ = true) : ∃ c, fn.body = some c := by
  unfold okFun at hok
  simp only at hok
  cases hb : fn.body with
  | none => rw [hb] at hok; simp at hok
  | some c => exact ⟨c, rfl⟩
/-- A function that is walked from no box to no box. -/
theorem walkP (hm : P.follows .mixedOrders = true) (tys : TysOk P cx) {f : FuncId} {fn : Func} {dl : DL} (k : FnAt P cx f fn mask dl) (ck : CallOk P cx cf) {args : List T} {r : T} (hl : lowBs args = true) (hn : args.length ≤ fn.ntmps) (n : Nat)
    (hw : ∀ vs, ArgsAt vs 0 args → W (codeD cx cf n mask dl (fn.body.getD .skip) ⟨vs, .nil⟩ hE) (kend cx mask fn.results.toList fun l h => Fin0 h l r)) : PureAt P cx f args r := by
  have key : ∃ r', cn r' = r ∧ bodyT cx cf n fn mask false args hE = some (r', hE) := by
    obtain ⟨vars, hv, _, ha⟩ := initVars_args mask fn.ntmps 0 args hn
    obtain ⟨x, e, h, ho, hx, l, hr, hp, hf⟩ := W_tmps (hw vars ha)
    have ho := codeD_sound _ k.dr _ _ _ ho
    obtain ⟨c, hb⟩ := body_of k.ok
    rw [hb] at ho
    unfold finC at hf
    obtain ⟨r', hf, hc⟩ := bnd_eq_some.1 hf
    simp only [Option.some.injEq] at hc
    refine ⟨r', hc, ?_⟩
    unfold bodyT
    rw [hb]
    simp only
    rw [hv, bnd_some]
    have ho : codeT cx cf n mask c ⟨vars, .nil⟩ ⟨0, 0, []⟩ = some (x, e, h) := ho
    rw [ho, bnd_some, three_mk]
    have hres := results_tmps hr
    rcases hx with rfl | rfl <;> (simp only; rw [hres, bnd_some]; exact leave_of hp hf)
  obtain ⟨r', rfl, hb⟩ := key
  have hP : PureAt P cx f args r' := pure_of (lowBs_low _ hl) fun base w μ cargs s hL =>
    quick_deep (F := ⟨fn, mask, false, none⟩) hm tys k.at_ k.ok cf ck n args hE r' hE hb base w μ cargs s hL
  intro base w μ cargs h s hL
  refine (hP base w μ cargs h s hL).mono fun v w' ⟨⟨μ1, k1, k2, k3, k4⟩, k5⟩ => ?_
  exact ⟨⟨μ1, k1.cn, k2, k3, k4⟩, k5⟩
end
end Go.TI
