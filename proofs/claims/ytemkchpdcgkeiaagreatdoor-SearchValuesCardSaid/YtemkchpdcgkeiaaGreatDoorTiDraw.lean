/- Regions that draw their order: the edges, the trace of the order of the text, what stands at any stage of any order. -/
import Derived.Test.YtemkchpdcgkeiaaGreatDoorTiFrame
namespace Go.TI
set_option linter.unusedSimpArgs false
set_option linter.unusedVariables false
set_option linter.unusedVariables false

/-! ### the edges -/

theorem befMask_bit {acc : List Nat} {l : List Edge} {i : Nat} (h : (befMask acc l).testBit i = true) :
    ∃ e ∈ l, Region.binds .any e = true ∧ (i = e.on ∨ (acc.getD e.on 0).testBit i = true) := by
  induction l with
  | nil => simp [befMask] at h
  | cons e l ih =>
    have h : (@Bool.rec (fun _ => Nat) (befMask acc l) ((befMask acc l) ||| ((1 <<< e.on) ||| (acc.getD e.on 0))) (Region.binds .any e)).testBit i = true := h
    cases hb : Region.binds .any e with
    | false =>
      rw [hb] at h
      obtain ⟨e', he', k⟩ := ih h
      exact ⟨e', by simp [he'], k⟩
    | true =>
      rw [hb] at h
      simp only [Nat.testBit_or, Bool.or_eq_true] at h
      rcases h with h | h | h
      · obtain ⟨e', he', k⟩ := ih h
        exact ⟨e', by simp [he'], k⟩
      · refine ⟨e, by simp, hb, .inl ?_⟩
        rw [Nat.one_shiftLeft, Nat.testBit_two_pow] at h
        exact (of_decide_eq_true h).symm
      · exact ⟨e, by simp, hb, .inr h⟩

/-- What is listed, its size, and that it is closed under the edges. -/
structure Cl (ops : Array Oper) (listed : Array Bool) : Prop where
  size : listed.size = ops.size
  closed : ∀ j oj, ops[j]? = some oj → listed.getD j false = true → ∀ e ∈ oj.after, Region.binds .any e = true → listed.getD e.on false = true

theorem befs_in {ops : Array Oper} {listed : Array Bool} (c : Cl ops listed) : ∀ (l : List Oper) (acc : List Nat), (∀ t : Nat, l[t]? = ops[acc.length + t]?) →
    (∀ (k m : Nat), acc[k]? = some m → ∀ i, m.testBit i = true → ∀ o, ops[k]? = some o → (∀ e ∈ o.after, Region.binds .any e = true → listed.getD e.on false = true) → listed.getD i false = true) →
    ∀ (k m : Nat), (befs l acc)[k]? = some m → ∀ i, m.testBit i = true → ∀ o, ops[k]? = some o → (∀ e ∈ o.after, Region.binds .any e = true → listed.getD e.on false = true) → listed.getD i false = true := by
  intro l
  induction l with
  | nil => intro acc _ hacc k m hk; exact hacc k m hk
  | cons o l ih =>
    intro acc hl hacc
    refine ih (acc ++ [befMask acc o.after.toList]) (fun t => ?_) ?_
    · have := hl (t + 1)
      simp only [List.getElem?_cons_succ] at this
      rw [this]; congr 1; simp; omega
    · intro k m hk i hi o' ho' hedges
      by_cases hlt : k < acc.length
      · rw [List.getElem?_append_left hlt] at hk
        exact hacc k m hk i hi o' ho' hedges
      · rw [List.getElem?_append_right (by omega)] at hk
        have hk0 : k = acc.length := by
          rcases Nat.eq_or_lt_of_le (Nat.le_of_not_lt hlt) with h | h
          · exact h.symm
          · rw [List.getElem?_eq_none (by simp; omega)] at hk; simp at hk
        subst hk0
        simp at hk; subst hk
        have h0 := hl 0
        simp at h0
        rw [← h0] at ho'
        simp at ho'; subst ho'
        obtain ⟨e, he, hb, hor⟩ := befMask_bit hi
        have hin := hedges e (by simpa using he) hb
        rcases hor with rfl | hor
        · exact hin
        · have heon : e.on < listed.size := by
            rcases Nat.lt_or_ge e.on listed.size with h | h
            · exact h
            · simp [Array.getElem?_eq_none h] at hin
          have hops : e.on < ops.size := by rw [← c.size]; exact heon
          have hget : ops[e.on]? = some ops[e.on] := by simp [hops]
          cases hm : acc[e.on]? with
          | none => rw [List.getD_eq_getElem?_getD, hm] at hor; simp at hor
          | some m =>
            rw [List.getD_eq_getElem?_getD, hm] at hor
            exact hacc e.on m hm i hor ops[e.on] hget (c.closed e.on _ hget hin)

theorem ordered_in {ops : Array Oper} {listed : Array Bool} (c : Cl ops listed) {i j : Nat} {o : Oper} (h : ordered ops i j = true) (ho : ops[j]? = some o)
    (he : ∀ e ∈ o.after, Region.binds .any e = true → listed.getD e.on false = true) : listed.getD i false = true := by
  unfold ordered at h
  rw [List.getD_eq_getElem?_getD] at h
  cases hm : (befs ops.toList [])[j]? with
  | none => rw [hm] at h; simp at h
  | some m =>
    rw [hm] at h
    exact befs_in c ops.toList [] (fun t => by simp) (fun k m hk => by simp at hk) j m hm i h o ho he

/-- What is asked of a region that draws: edges lead back; two operations that name one slot, one of them setting it, and two that change the heap, stand in an order. -/
def isStore : Op → Bool
  | .store .. => true
  | _ => false

def drawB (ops : Array Oper) : Bool :=
  let bs := befs ops.toList []
  let os := ops.toList.zipIdx
  os.all fun y => (y.1.after.toList.all fun e => !Region.binds .any e || Nat.blt e.on y.2) &&
    os.all fun x => !Nat.blt x.2 y.2 || (x.1.apart ops y.1 && (!(isEff x.1.op && isEff y.1.op) || (isStore x.1.op && isStore y.1.op))) || (bs.getD y.2 0).testBit x.2

theorem mem_zipIdx {ops : Array Oper} {i : Nat} {o : Oper} (h : ops[i]? = some o) : (o, i) ∈ ops.toList.zipIdx := by
  rw [List.mem_iff_getElem?]
  exact ⟨i, by simp [h]⟩

theorem drawB_back {ops : Array Oper} (hb : drawB ops = true) {j : Nat} {o : Oper} (ho : ops[j]? = some o) : ∀ e ∈ o.after, Region.binds .any e = true → e.on < j := by
  intro e he hbd
  unfold drawB at hb
  have h1 := List.all_eq_true.1 hb (o, j) (mem_zipIdx ho)
  simp only [Bool.and_eq_true] at h1
  have h2 := List.all_eq_true.1 h1.1 e (by simpa using he)
  simp only [hbd, Bool.not_true, Bool.false_or, Nat.blt_eq] at h2
  exact h2

theorem drawB_pairs {ops : Array Oper} (hb : drawB ops = true) {i j : Nat} {oi oj : Oper} (hi : ops[i]? = some oi) (hj : ops[j]? = some oj) (hij : i < j) :
    (oi.apart ops oj = true ∧ (isEff oi.op = true → isEff oj.op = true → isStore oi.op = true ∧ isStore oj.op = true)) ∨ ordered ops i j = true := by
  unfold drawB at hb
  have h1 := List.all_eq_true.1 hb (oj, j) (mem_zipIdx hj)
  simp only [Bool.and_eq_true] at h1
  have h2 := List.all_eq_true.1 h1.2 (oi, i) (mem_zipIdx hi)
  have h3 : Nat.blt i j = true := by rw [Nat.blt_eq]; exact hij
  simp only [h3, Bool.not_true, Bool.false_or, Bool.or_eq_true, Bool.and_eq_true, Bool.not_eq_true', Bool.and_eq_false_iff] at h2
  rcases h2 with ⟨h2, h4⟩ | h2
  · left
    refine ⟨h2, fun k k' => ?_⟩
    rcases h4 with (h4 | h4) | h4
    · rw [k] at h4; simp at h4
    · rw [k'] at h4; simp at h4
    · exact h4
  · right; exact h2

/-! ### the trace -/

section
variable {cx : Ctx} {cf : CallF} {mask : Nat} {ops : Array Oper}

/-- Operation k is carried out, and changes the heap. -/
def EffW (mask : Nat) (ops : Array Oper) (E : Nat → Env) (k : Nat) : Prop := ∃ o, ops[k]? = some o ∧ isEff o.op = true ∧ wantT ops mask (E k) o.guard = some true

/-- Operation k is carried out, changes nothing, and looks at box b. -/
def LookW (cx : Ctx) (mask : Nat) (ops : Array Oper) (E : Nat → Env) (Hs : Nat → H) (k b : Nat) : Prop :=
  ∃ o, ops[k]? = some o ∧ isEff o.op = false ∧ wantT ops mask (E k) o.guard = some true ∧ looksBox cx mask (E k) (Hs k) o.op = some b

/-- Operation k is carried out, and stores into box b. -/
def StW (cx : Ctx) (mask : Nat) (ops : Array Oper) (E : Nat → Env) (k b : Nat) : Prop :=
  ∃ o t x v, ops[k]? = some o ∧ o.op = .store t x v ∧ wantT ops mask (E k) o.guard = some true ∧ bnd (opnd cx mask (E k) x) boxOf = some b

structure Trace (cx : Ctx) (cf : CallF) (mask : Nat) (ops : Array Oper) (E : Nat → Env) (Hs : Nat → H) : Prop where
  step : ∀ k o, ops[k]? = some o → stepOp cx cf mask ops (E k) (Hs k) o = some (E (k + 1), Hs (k + 1))
  ahead : ∀ k k' b, LookW cx mask ops E Hs k b → EffW mask ops E k' → k < k' → sameVer (Hs k') (Hs (k' + 1)) b = true ∨ ordered ops k k' = true
  behind : ∀ k k' b, LookW cx mask ops E Hs k b → EffW mask ops E k' → k' < k → sameVer (Hs k') (Hs (k' + 1)) b = true ∨ ordered ops k' k = true
  both : ∀ k k' b, StW cx mask ops E k b → EffW mask ops E k' → k' < k → sameVer (Hs k') (Hs (k' + 1)) b = true ∨ ordered ops k' k = true

theorem boolRec_or {x y : Bool} (h : @Bool.rec (fun _ => Bool) y true x = true) : x = true ∨ y = true := by cases x <;> simp_all

theorem runDraw_cons {o : Oper} {l : List Oper} {i : Nat} {s : Seen} {e e' : Env} {h h' : H} (hh : runDraw cx cf mask ops (o :: l) i s e h = some (e', h')) :
    ∃ e1 h1 want, stepOp cx cf mask ops e h o = some (e1, h1) ∧ wantT ops mask e o.guard = some want ∧
      ∃ s', runDraw cx cf mask ops l (i + 1) s' e1 h1 = some (e', h') ∧ (∀ p ∈ s.loads, p ∈ s'.loads) ∧ (∀ p ∈ s.effs, p ∈ s'.effs) ∧
        (want = true → isEff o.op = true → effOk ops i h h1 s.loads = true ∧ (i, h, h1) ∈ s'.effs ∧ storeOk cx mask ops i e s.effs o.op = true) ∧
        (want = true → isEff o.op = false → ∀ b, looksBox cx mask e h o.op = some b → loadOk ops i b s.effs = true ∧ (i, b) ∈ s'.loads) := by
  have hh : (bnd (stepOp cx cf mask ops e h o) fun p => two p fun e1 h1 =>
      bnd (wantT ops mask e o.guard) fun want => @Bool.rec (fun _ => Option (Env × H)) (runDraw cx cf mask ops l (i + 1) s e1 h1)
        (@Bool.rec (fun _ => Option (Env × H))
          (@Option.rec Nat (fun _ => Option (Env × H)) (runDraw cx cf mask ops l (i + 1) s e1 h1)
            (fun b => chk (loadOk ops i b s.effs) (runDraw cx cf mask ops l (i + 1) ⟨(i, b) :: s.loads, s.effs⟩ e1 h1)) (looksBox cx mask e h o.op))
          (chk (effOk ops i h h1 s.loads) (chk (storeOk cx mask ops i e s.effs o.op) (runDraw cx cf mask ops l (i + 1) ⟨s.loads, (i, h, h1) :: s.effs⟩ e1 h1))) (isEff o.op)) want) = some (e', h') := hh
  replace hh := bnd_eq_some.1 hh; obtain ⟨⟨e1, h1⟩, hs, hh⟩ := hh
  simp only [two_mk] at hh
  replace hh := bnd_eq_some.1 hh; obtain ⟨want, hw, hh⟩ := hh
  refine ⟨e1, h1, want, hs, hw, ?_⟩
  cases want with
  | false => exact ⟨s, hh, fun _ h => h, fun _ h => h, fun h => by simp at h, fun h => by simp at h⟩
  | true =>
    cases he : isEff o.op with
    | true =>
      rw [he] at hh
      obtain ⟨hk, hh⟩ := chk_eq_some.1 hh
      obtain ⟨hk2, hh⟩ := chk_eq_some.1 hh
      exact ⟨_, hh, fun _ h => h, fun _ h => by simp [h], fun _ _ => ⟨hk, by simp, hk2⟩, fun _ h => by simp at h⟩
    | false =>
      rw [he] at hh
      cases hb : looksBox cx mask e h o.op with
      | none =>
        rw [hb] at hh
        exact ⟨s, hh, fun _ h => h, fun _ h => h, fun _ h => by simp at h, fun _ _ b h => by simp at h⟩
      | some b =>
        rw [hb] at hh
        obtain ⟨hk, hh⟩ := chk_eq_some.1 hh
        exact ⟨_, hh, fun _ h => by simp [h], fun _ h => h, fun _ h => by simp at h, fun _ _ b' h => by simp only [Option.some.injEq] at h; subst h; exact ⟨hk, by simp⟩⟩

theorem runDraw_trace : ∀ (l : List Oper) (i : Nat) (s : Seen) (e e' : Env) (h h' : H), (∀ t, l[t]? = ops[i + t]?) → runDraw cx cf mask ops l i s e h = some (e', h') →
    ∃ (E : Nat → Env) (Hs : Nat → H), E i = e ∧ Hs i = h ∧ E (i + l.length) = e' ∧ Hs (i + l.length) = h' ∧
      (∀ k o, i ≤ k → ops[k]? = some o → stepOp cx cf mask ops (E k) (Hs k) o = some (E (k + 1), Hs (k + 1))) ∧
      (∀ k b, i ≤ k → LookW cx mask ops E Hs k b → ∀ p ∈ s.effs, sameVer p.2.1 p.2.2 b = true ∨ ordered ops p.1 k = true) ∧
      (∀ k, i ≤ k → EffW mask ops E k → ∀ p ∈ s.loads, sameVer (Hs k) (Hs (k + 1)) p.2 = true ∨ ordered ops p.1 k = true) ∧
      (∀ k k' b, i ≤ k → LookW cx mask ops E Hs k b → EffW mask ops E k' → k < k' → sameVer (Hs k') (Hs (k' + 1)) b = true ∨ ordered ops k k' = true) ∧
      (∀ k k' b, i ≤ k' → LookW cx mask ops E Hs k b → EffW mask ops E k' → k' < k → sameVer (Hs k') (Hs (k' + 1)) b = true ∨ ordered ops k' k = true) ∧
      (∀ k b, i ≤ k → StW cx mask ops E k b → ∀ p ∈ s.effs, sameVer p.2.1 p.2.2 b = true ∨ ordered ops p.1 k = true) ∧
      (∀ k k' b, i ≤ k' → StW cx mask ops E k b → EffW mask ops E k' → k' < k → sameVer (Hs k') (Hs (k' + 1)) b = true ∨ ordered ops k' k = true) := by
  intro l
  induction l with
  | nil =>
    intro i s e e' h h' hl hh
    have hh : some (e, h) = some (e', h') := hh
    simp only [Option.some.injEq, Prod.mk.injEq] at hh
    obtain ⟨rfl, rfl⟩ := hh
    have hno : ∀ k o, i ≤ k → ops[k]? = some o → False := fun k o hk ho => by
      have := hl (k - i)
      rw [show i + (k - i) = k by omega, ho] at this
      simp at this
    refine ⟨fun _ => e, fun _ => h, rfl, rfl, rfl, rfl, fun k o hk ho => (hno k o hk ho).elim, ?_, ?_, ?_, ?_, ?_, ?_⟩
    · rintro k b hk ⟨o, ho, _⟩; exact (hno k o hk ho).elim
    · rintro k hk ⟨o, ho, _⟩; exact (hno k o hk ho).elim
    · rintro k k' b hk ⟨o, ho, _⟩; exact (hno k o hk ho).elim
    · rintro k k' b hk _ ⟨o, ho, _⟩; exact (hno k' o hk ho).elim
    · rintro k b hk ⟨o, _, _, _, ho, _⟩; exact (hno k o hk ho).elim
    · rintro k k' b hk _ ⟨o, ho, _⟩; exact (hno k' o hk ho).elim
  | cons o l ih =>
    intro i s e e' h h' hl hh
    obtain ⟨e1, h1, want, hs, hw, s', hrun, hl1, hl2, heff, hlook⟩ := runDraw_cons hh
    have hi : ops[i]? = some o := by have := hl 0; simpa using this.symm
    obtain ⟨E, Hs, q1, q2, q3, q4, q5, q6, q7, q8, q9, q10, q11⟩ := ih (i + 1) s' e1 e' h1 h' (fun t => by
      have := hl (t + 1)
      simp only [List.getElem?_cons_succ] at this
      rw [this]; congr 1; omega) hrun
    let E' : Nat → Env := fun k => if k = i then e else E k
    let Hs' : Nat → H := fun k => if k = i then h else Hs k
    have hE : ∀ k, k ≠ i → E' k = E k := fun k hk => by simp [E', hk]
    have hH : ∀ k, k ≠ i → Hs' k = Hs k := fun k hk => by simp [Hs', hk]
    have hE0 : E' i = e := by simp [E']
    have hH0 : Hs' i = h := by simp [Hs']
    have hE1 : E' (i + 1) = e1 := by rw [hE _ (by omega), q1]
    have hH1 : Hs' (i + 1) = h1 := by rw [hH _ (by omega), q2]
    have eff' : ∀ k, k ≠ i → EffW mask ops E' k → EffW mask ops E k := fun k hk => by unfold EffW; rw [hE k hk]; exact id
    have look' : ∀ k b, k ≠ i → LookW cx mask ops E' Hs' k b → LookW cx mask ops E Hs k b := fun k b hk => by unfold LookW; rw [hE k hk, hH k hk]; exact id
    have st' : ∀ k b, k ≠ i → StW cx mask ops E' k b → StW cx mask ops E k b := fun k b hk => by unfold StW; rw [hE k hk]; exact id
    have st0 : ∀ b, StW cx mask ops E' i b → loadOk ops i b s.effs = true := by
      rintro b ⟨o', t, x, v, ho', k1, k2, k3⟩
      rw [hi] at ho'; simp only [Option.some.injEq] at ho'; subst ho'
      rw [hE0, hw] at k2
      rw [hE0] at k3
      simp only [Option.some.injEq] at k2
      have := (heff k2 (by rw [k1]; rfl)).2.2
      rw [k1] at this
      have this : @Option.rec Nat (fun _ => Bool) true (fun b => loadOk ops i b s.effs) (bnd (opnd cx mask e x) boxOf) = true := this
      rw [k3] at this
      exact this
    have eff0 : EffW mask ops E' i → effOk ops i h h1 s.loads = true ∧ (i, h, h1) ∈ s'.effs := by
      rintro ⟨o', ho', k1, k2⟩
      rw [hi] at ho'; simp only [Option.some.injEq] at ho'; subst ho'
      rw [hE0, hw] at k2
      simp only [Option.some.injEq] at k2
      exact ⟨(heff k2 k1).1, (heff k2 k1).2.1⟩
    have look0 : ∀ b, LookW cx mask ops E' Hs' i b → loadOk ops i b s.effs = true ∧ (i, b) ∈ s'.loads := by
      rintro b ⟨o', ho', k1, k2, k3⟩
      rw [hi] at ho'; simp only [Option.some.injEq] at ho'; subst ho'
      rw [hE0, hw] at k2
      rw [hE0, hH0] at k3
      simp only [Option.some.injEq] at k2
      exact hlook k2 k1 b k3
    refine ⟨E', Hs', hE0, hH0, ?_, ?_, ?_, ?_, ?_, ?_, ?_, ?_, ?_⟩
    · rw [hE _ (by simp), ← q3]; congr 1; simp; omega
    · rw [hH _ (by simp), ← q4]; congr 1; simp; omega
    · intro k o' hk ho'
      by_cases hki : k = i
      · subst hki
        rw [hi] at ho'; simp only [Option.some.injEq] at ho'; subst ho'
        rw [hE0, hH0, hE1, hH1]; exact hs
      · rw [hE k hki, hH k hki, hE (k + 1) (by omega), hH (k + 1) (by omega)]
        exact q5 k o' (by omega) ho'
    · intro k b hk hlk p hp
      by_cases hki : k = i
      · subst hki
        obtain ⟨k1, _⟩ := look0 b hlk
        exact boolRec_or (allB_all k1 p hp)
      · exact q6 k b (by omega) (look' k b hki hlk) p (hl2 p hp)
    · intro k hk hek p hp
      by_cases hki : k = i
      · subst hki
        obtain ⟨k1, _⟩ := eff0 hek
        rw [hH0, hH1]
        exact boolRec_or (allB_all k1 p hp)
      · rw [hH k hki, hH (k + 1) (by omega)]
        exact q7 k (by omega) (eff' k hki hek) p (hl1 p hp)
    · intro k k' b hk hlk hek hlt
      have hk'i : k' ≠ i := by omega
      rw [hH k' hk'i, hH (k' + 1) (by omega)]
      by_cases hki : k = i
      · subst hki
        obtain ⟨_, k2⟩ := look0 b hlk
        exact q7 k' (by omega) (eff' k' hk'i hek) (k, b) k2
      · exact q8 k k' b (by omega) (look' k b hki hlk) (eff' k' hk'i hek) hlt
    · intro k k' b hk hlk hek hlt
      have hki : k ≠ i := by omega
      by_cases hk'i : k' = i
      · subst hk'i
        obtain ⟨_, k2⟩ := eff0 hek
        rw [hH0, hH1]
        exact q6 k b (by omega) (look' k b hki hlk) (k', h, h1) k2
      · rw [hH k' hk'i, hH (k' + 1) (by omega)]
        exact q9 k k' b (by omega) (look' k b hki hlk) (eff' k' hk'i hek) hlt
    · intro k b hk hlk p hp
      by_cases hki : k = i
      · subst hki
        exact boolRec_or (allB_all (st0 b hlk) p hp)
      · exact q10 k b (by omega) (st' k b hki hlk) p (hl2 p hp)
    · intro k k' b hk hlk hek hlt
      have hki : k ≠ i := by omega
      by_cases hk'i : k' = i
      · subst hk'i
        obtain ⟨_, k2⟩ := eff0 hek
        rw [hH0, hH1]
        exact q10 k b (by omega) (st' k b hki hlk) (k', h, h1) k2
      · rw [hH k' hk'i, hH (k' + 1) (by omega)]
        exact q11 k k' b (by omega) (st' k b hki hlk) (eff' k' hk'i hek) hlt

/-! ### one operation -/

/-- An operation comes to a value, at once or by a call. -/
def Exec (cx : Ctx) (cf : CallF) (mask : Nat) (e : Env) (h : H) (op : Op) (v : T) (h' : H) : Prop :=
  opH op cx mask e h = some (.val v h') ∨ ∃ f args, opH op cx mask e h = some (.call f args) ∧ cf f args h = some (v, h')

theorem stepOp_inv {e e' : Env} {h h' : H} {o : Oper} (hh : stepOp cx cf mask ops e h o = some (e', h')) :
    (wantT ops mask e o.guard = some false ∧ e.dst mask o.dst .undef = some e' ∧ h' = h) ∨
    (wantT ops mask e o.guard = some true ∧ ∃ v, Exec cx cf mask e h o.op v h' ∧ e.dst mask o.dst v = some e') := by
  replace hh := bnd_eq_some.1 hh; obtain ⟨want, hw, hh⟩ := hh
  cases want with
  | false =>
    left
    have hh : (bnd (e.dst mask o.dst .undef) fun e' => some (e', h)) = some (e', h') := hh
    replace hh := bnd_eq_some.1 hh; obtain ⟨e1, he1, hh⟩ := hh
    simp only [Option.some.injEq, Prod.mk.injEq] at hh
    obtain ⟨rfl, rfl⟩ := hh
    exact ⟨hw, he1, rfl⟩
  | true =>
    right
    refine ⟨hw, ?_⟩
    have hh : (bnd (opH o.op cx mask e h) fun d => @Did.rec (fun _ => Option (Env × TI.H))
      (fun v h' => bnd (e.dst mask o.dst v) fun e' => some (e', h'))
      (fun f args => bnd (cf f args h) fun r => two r fun v h' => bnd (e.dst mask o.dst v) fun e' => some (e', h')) d) = some (e', h') := hh
    replace hh := bnd_eq_some.1 hh; obtain ⟨d, hop, hh⟩ := hh
    cases d with
    | val v h1 =>
      have hh : (bnd (e.dst mask o.dst v) fun e' => some (e', h1)) = some (e', h') := hh
      replace hh := bnd_eq_some.1 hh; obtain ⟨e1, he1, hh⟩ := hh
      simp only [Option.some.injEq, Prod.mk.injEq] at hh
      obtain ⟨rfl, rfl⟩ := hh
      exact ⟨v, .inl hop, he1⟩
    | «call» f args =>
      have hh : (bnd (cf f args h) fun r => two r fun v h' => bnd (e.dst mask o.dst v) fun e' => some (e', h')) = some (e', h') := hh
      replace hh := bnd_eq_some.1 hh; obtain ⟨⟨v, h1⟩, hcall, hh⟩ := hh
      simp only [two_mk] at hh
      replace hh := bnd_eq_some.1 hh; obtain ⟨e1, he1, hh⟩ := hh
      simp only [Option.some.injEq, Prod.mk.injEq] at hh
      obtain ⟨rfl, rfl⟩ := hh
      exact ⟨v, .inr ⟨f, args, hop, hcall⟩, he1⟩

theorem exec_ran {P : Program} {base : Nat} {w : World} {μ : Mu} {e : Env} {h h' : H} {a : Act} {o : Oper} {v : T} (tys : TysOk P cx) (ck : CallOk P cx cf)
    (s : St cx base w.heap μ h) (r : RelE w.heap μ mask e a.tmps) (hx : Exec cx cf mask e h o.op v h') : Ran P (AfterG cx base w μ h v h') ((execOp a.eval o).run P w) := by
  rcases hx with hop | ⟨f, args, hop, hcall⟩
  · exact ((opH_val tys s r hop).ran).mono fun c w' hc => ⟨hc, mv_opH s.wf v h' hop⟩
  · obtain ⟨_, cargs, hL, hrun⟩ := opH_call (P := P) s r hop
    rw [hrun]
    exact ck f args h v h' hcall base w μ cargs s hL

theorem Exec.congr {e e' : Env} {h h' : H} {op : Op} {v : T} (hx : ∀ x ∈ op.operands, opnd cx mask e x = opnd cx mask e' x) (hh : Exec cx cf mask e h op v h') : Exec cx cf mask e' h op v h' := by
  unfold Exec at *
  rw [opH_congr hx] at hh
  exact hh

/-- Nothing but a call or a change leaves a box other than it was. -/
theorem isEff_call {c : Call} {e : Env} {h : H} {f : FuncId} {args : List T} (hh : opH (.call c) cx mask e h = some (.call f args)) : isEff (.call c) = true := by
  have hh : hCall c cx mask e h = some (.call f args) := hh
  replace hh := bnd_eq_some.1 hh; obtain ⟨l, hl, hh⟩ := hh
  cases hc : c.callee with
  | builtin b => rw [hc] at hh; exact (builtin_no_call hh).elim
  | invoke x m => rw [hc] at hh; simp at hh
  | value g => simp [isEff, hc]

theorem exec_val {e : Env} {h h' : H} {op : Op} {v : T} (hne : isEff op = false) (hh : Exec cx cf mask e h op v h') : opH op cx mask e h = some (.val v h') := by
  rcases hh with hop | ⟨f, args, hop, _⟩
  · exact hop
  · by_cases hc : ∃ c, op = .call c
    · obtain ⟨c, rfl⟩ := hc
      rw [isEff_call hop] at hne; simp at hne
    · exact absurd hop (nc_other (fun c hq => hc ⟨c, hq⟩) f args)

/-! ### the slots that an operation looks at -/

noncomputable def rVars (mask : Nat) (e : Env) : List Nat → Vars
  | [] => .nil
  | s :: l => match e.get mask s with
    | some v => .cons s v (rVars mask e l)
    | none => rVars mask e l

theorem look_rVars {e : Env} {s : Nat} : ∀ (l : List Nat), look (rVars mask e l) s = if s ∈ l then e.get mask s else none := by
  intro l
  induction l with
  | nil => simp [rVars, look]
  | cons t l ih =>
    unfold rVars
    cases hg : e.get mask t with
    | none =>
      simp only [ih, List.mem_cons]
      by_cases h : s = t
      · subst h; simp [hg]
      · simp [h]
    | some v =>
      simp only [look_cons, ih, List.mem_cons]
      by_cases h : t = s
      · subst h; simp [hg]
      · simp [h, Ne.symm h]

noncomputable def rEnv (mask : Nat) (e : Env) (l : List Nat) : Env := ⟨rVars mask e l, rVars mask e l⟩

theorem rEnv_get {e : Env} {s : Nat} {l : List Nat} : (rEnv mask e l).get mask s = if s ∈ l then e.get mask s else none := by
  show @Bool.rec (fun _ => Option T) (look (rVars mask e l) s) (look (rVars mask e l) s) (lasts mask s) = _
  rw [look_rVars]
  cases lasts mask s <;> rfl

theorem opnd_rEnv {e : Env} {o : Oper} {x : Operand} (hx : x ∈ o.op.operands) : opnd cx mask e x = opnd cx mask (rEnv mask e (o.looksAt ops)) x := by
  cases x with
  | tmp t =>
    show e.get mask t = (rEnv mask e (o.looksAt ops)).get mask t
    rw [rEnv_get, if_pos]
    unfold Oper.looksAt
    exact List.mem_append_left _ (List.mem_filterMap.2 ⟨.tmp t, by simpa using hx, rfl⟩)
  | const c => rfl
  | global g => rfl
  | func f => rfl

theorem wantT_rEnv {e : Env} {o : Oper} : wantT ops mask (rEnv mask e (o.looksAt ops)) o.guard = wantT ops mask e o.guard := by
  cases hg : o.guard with
  | none => rfl
  | some p =>
    obtain ⟨j, want⟩ := p
    show (bnd (bnd (bnd (nthD ops.toList j) fun o => o.dst) fun d => (rEnv mask e (o.looksAt ops)).get mask d) fun v => _) = (bnd (bnd (bnd (nthD ops.toList j) fun o => o.dst) fun d => e.get mask d) fun v => _)
    cases hp : (bnd (nthD ops.toList j) fun o => o.dst) with
    | none => rfl
    | some d =>
      simp only [bnd_some]
      rw [rEnv_get, if_pos]
      unfold Oper.looksAt
      refine List.mem_append_right _ ?_
      replace hp := bnd_eq_some.1 hp; obtain ⟨p, hp', hpd⟩ := hp
      rw [nthD_eq] at hp'
      have : ops[j]? = some p := by simpa using hp'
      simp [hg, this, hpd]
end
end Go.TI
