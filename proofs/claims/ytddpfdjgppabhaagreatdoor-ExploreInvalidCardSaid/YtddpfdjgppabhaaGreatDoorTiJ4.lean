/- The interpreter of trees, part 4 of 8: TiDraw TiDraw2 TiDraw3 TiCall TiPrim TiFast. -/
import Derived.Test.YtddpfdjgppabhaaGreatDoorTiJ3
import Derived.Laws.Externs
set_option linter.unusedSimpArgs false
set_option linter.unusedVariables false
/- Regions that draw their order: the edges, the trace of the order of the text, what stands at any stage of any order. -/
namespace Go.TI
set_option linter.unusedVariables false

/-! ### the edges -/

theorem befMask_bit {acc : List Nat} {l : List Edge} {i : Nat} (h : (befMask acc l).testBit i = true) :
    ∃ e ∈ l, Region.binds .any e = true ∧ (i = e.on ∨ (acc.getD e.on 0).testBit i = true) := by
  induction l with
  | nil => simp [befMask] at h
  | cons e l ih =>
    have h : (@Bool.rec (fun _ => Nat) (befMask acc l) ((befMask acc l) ||| ((1 <<< e.on) ||| (acc.getD e.on 0))) (Region.binds .any e)).testBit i = true := h
    cases hb : Region.binds .any e with
    | false =>
      rw [hb] at h
      obtain ⟨e', he', k⟩ := ih h
      exact ⟨e', by simp [he'], k⟩
    | true =>
      rw [hb] at h
      simp only [Nat.testBit_or, Bool.or_eq_true] at h
      rcases h with h | h | h
      · obtain ⟨e', he', k⟩ := ih h
        exact ⟨e', by simp [he'], k⟩
      · refine ⟨e, by simp, hb, .inl ?_⟩
        rw [Nat.one_shiftLeft, Nat.testBit_two_pow] at h
        exact (of_decide_eq_true h).symm
      · exact ⟨e, by simp, hb, .inr h⟩

/-- What is listed, its size, and that it is closed under the edges. -/
structure Cl (ops : Array Oper) (listed : Array Bool) : Prop where
  size : listed.size = ops.size
  closed : ∀ j oj, ops[j]? = some oj → listed.getD j false = true → ∀ e ∈ oj.after, Region.binds .any e = true → listed.getD e.on false = true

theorem befs_in {ops : Array Oper} {listed : Array Bool} (c : Cl ops listed) : ∀ (l : List Oper) (acc : List Nat), (∀ t : Nat, l[t]? = ops[acc.length + t]?) →
    (∀ (k m : Nat), acc[k]? = some m → ∀ i, m.testBit i = true → ∀ o, ops[k]? = some o → (∀ e ∈ o.after, Region.binds .any e = true → listed.getD e.on false = true) → listed.getD i false = true) →
    ∀ (k m : Nat), (befs l acc)[k]? = some m → ∀ i, m.testBit i = true → ∀ o, ops[k]? = some o → (∀ e ∈ o.after, Region.binds .any e = true → listed.getD e.on false = true) → listed.getD i false = true := by
  intro l
  induction l with
  | nil => intro acc _ hacc k m hk; exact hacc k m hk
  | cons o l ih =>
    intro acc hl hacc
    refine ih (acc ++ [befMask acc o.after.toList]) (fun t => ?_) ?_
    · have := hl (t + 1)
      simp only [List.getElem?_cons_succ] at this
      rw [this]; congr 1; simp; omega
    · intro k m hk i hi o' ho' hedges
      by_cases hlt : k < acc.length
      · rw [List.getElem?_append_left hlt] at hk
        exact hacc k m hk i hi o' ho' hedges
      · rw [List.getElem?_append_right (by omega)] at hk
        have hk0 : k = acc.length := by
          rcases Nat.eq_or_lt_of_le (Nat.le_of_not_lt hlt) with h | h
          · exact h.symm
          · rw [List.getElem?_eq_none (by simp; omega)] at hk; simp at hk
        subst hk0
        simp at hk; subst hk
        have h0 := hl 0
        simp at h0
        rw [← h0] at ho'
        simp at ho'; subst ho'
        obtain ⟨e, he, hb, hor⟩ := befMask_bit hi
        have hin := hedges e (by simpa using he) hb
        rcases hor with rfl | hor
        · exact hin
        · have heon : e.on < listed.size := by
            rcases Nat.lt_or_ge e.on listed.size with h | h
            · exact h
            · simp [Array.getElem?_eq_none h] at hin
          have hops : e.on < ops.size := by rw [← c.size]; exact heon
          have hget : ops[e.on]? = some ops[e.on] := by simp [hops]
          cases hm : acc[e.on]? with
          | none => rw [List.getD_eq_getElem?_getD, hm] at hor; simp at hor
          | some m =>
            rw [List.getD_eq_getElem?_getD, hm] at hor
            exact hacc e.on m hm i hor ops[e.on] hget (c.closed e.on _ hget hin)

theorem ordered_in {ops : Array Oper} {listed : Array Bool} (c : Cl ops listed) {i j : Nat} {o : Oper} (h : ordered ops i j = true) (ho : ops[j]? = some o)
    (he : ∀ e ∈ o.after, Region.binds .any e = true → listed.getD e.on false = true) : listed.getD i false = true := by
  unfold ordered at h
  rw [List.getD_eq_getElem?_getD] at h
  cases hm : (befs ops.toList [])[j]? with
  | none => rw [hm] at h; simp at h
  | some m =>
    rw [hm] at h
    exact befs_in c ops.toList [] (fun t => by simp) (fun k m hk => by simp at hk) j m hm i h o ho he

/-- What is asked of a region that draws: edges lead back; two operations that name one slot, one of them setting it, and two that change the heap, stand in an order. -/
def isStore : Op → Bool
  | .store .. => true
  | _ => false

def drawB (ops : Array Oper) : Bool :=
  let bs := befs ops.toList []
  let os := ops.toList.zipIdx
  os.all fun y => (y.1.after.toList.all fun e => !Region.binds .any e || Nat.blt e.on y.2) &&
    os.all fun x => !Nat.blt x.2 y.2 || (x.1.apart ops y.1 && (!(isEff x.1.op && isEff y.1.op) || (isStore x.1.op && isStore y.1.op))) || (bs.getD y.2 0).testBit x.2

theorem mem_zipIdx {ops : Array Oper} {i : Nat} {o : Oper} (h : ops[i]? = some o) : (o, i) ∈ ops.toList.zipIdx := by
  rw [List.mem_iff_getElem?]
  exact ⟨i, by simp [h]⟩

theorem drawB_back {ops : Array Oper} (hb : drawB ops = true) {j : Nat} {o : Oper} (ho : ops[j]? = some o) : ∀ e ∈ o.after, Region.binds .any e = true → e.on < j := by
  intro e he hbd
  unfold drawB at hb
  have h1 := List.all_eq_true.1 hb (o, j) (mem_zipIdx ho)
  simp only [Bool.and_eq_true] at h1
  have h2 := List.all_eq_true.1 h1.1 e (by simpa using he)
  simp only [hbd, Bool.not_true, Bool.false_or, Nat.blt_eq] at h2
  exact h2

theorem drawB_pairs {ops : Array Oper} (hb : drawB ops = true) {i j : Nat} {oi oj : Oper} (hi : ops[i]? = some oi) (hj : ops[j]? = some oj) (hij : i < j) :
    (oi.apart ops oj = true ∧ (isEff oi.op = true → isEff oj.op = true → isStore oi.op = true ∧ isStore oj.op = true)) ∨ ordered ops i j = true := by
  unfold drawB at hb
  have h1 := List.all_eq_true.1 hb (oj, j) (mem_zipIdx hj)
  simp only [Bool.and_eq_true] at h1
  have h2 := List.all_eq_true.1 h1.2 (oi, i) (mem_zipIdx hi)
  have h3 : Nat.blt i j = true := by rw [Nat.blt_eq]; exact hij
  simp only [h3, Bool.not_true, Bool.false_or, Bool.or_eq_true, Bool.and_eq_true, Bool.not_eq_true', Bool.and_eq_false_iff] at h2
  rcases h2 with ⟨h2, h4⟩ | h2
  · left
    refine ⟨h2, fun k k' => ?_⟩
    rcases h4 with (h4 | h4) | h4
    · rw [k] at h4; simp at h4
    · rw [k'] at h4; simp at h4
    · exact h4
  · right; exact h2

/-! ### the trace -/

section
variable {cx : Ctx} {cf : CallF} {mask : Nat} {ops : Array Oper}

/-- Operation k is carried out, and changes the heap. -/
def EffW (mask : Nat) (ops : Array Oper) (E : Nat → Env) (k : Nat) : Prop := ∃ o, ops[k]? = some o ∧ isEff o.op = true ∧ wantT ops mask (E k) o.guard = some true

/-- Operation k is carried out, changes nothing, and looks at box b. -/
def LookW (cx : Ctx) (mask : Nat) (ops : Array Oper) (E : Nat → Env) (Hs : Nat → H) (k b : Nat) : Prop :=
  ∃ o, ops[k]? = some o ∧ isEff o.op = false ∧ wantT ops mask (E k) o.guard = some true ∧ looksBox cx mask (E k) (Hs k) o.op = some b

/-- Operation k is carried out, and stores into box b. -/
def StW (cx : Ctx) (mask : Nat) (ops : Array Oper) (E : Nat → Env) (k b : Nat) : Prop :=
  ∃ o t x v, ops[k]? = some o ∧ o.op = .store t x v ∧ wantT ops mask (E k) o.guard = some true ∧ bnd (opnd cx mask (E k) x) boxOf = some b

structure Trace (cx : Ctx) (cf : CallF) (mask : Nat) (ops : Array Oper) (E : Nat → Env) (Hs : Nat → H) : Prop where
  step : ∀ k o, ops[k]? = some o → stepOp cx cf mask ops (E k) (Hs k) o = some (E (k + 1), Hs (k + 1))
  ahead : ∀ k k' b, LookW cx mask ops E Hs k b → EffW mask ops E k' → k < k' → sameVer (Hs k') (Hs (k' + 1)) b = true ∨ ordered ops k k' = true
  behind : ∀ k k' b, LookW cx mask ops E Hs k b → EffW mask ops E k' → k' < k → sameVer (Hs k') (Hs (k' + 1)) b = true ∨ ordered ops k' k = true
  both : ∀ k k' b, StW cx mask ops E k b → EffW mask ops E k' → k' < k → sameVer (Hs k') (Hs (k' + 1)) b = true ∨ ordered ops k' k = true

theorem boolRec_or {x y : Bool} (h : @Bool.rec (fun _ => Bool) y true x = true) : x = true ∨ y = true := by cases x <;> simp_all

theorem runDraw_cons {o : Oper} {l : List Oper} {i : Nat} {s : Seen} {e e' : Env} {h h' : H} (hh : runDraw cx cf mask ops (o :: l) i s e h = some (e', h')) :
    ∃ e1 h1 want, stepOp cx cf mask ops e h o = some (e1, h1) ∧ wantT ops mask e o.guard = some want ∧
      ∃ s', runDraw cx cf mask ops l (i + 1) s' e1 h1 = some (e', h') ∧ (∀ p ∈ s.loads, p ∈ s'.loads) ∧ (∀ p ∈ s.effs, p ∈ s'.effs) ∧
        (want = true → isEff o.op = true → effOk ops i h h1 s.loads = true ∧ (i, h, h1) ∈ s'.effs ∧ storeOk cx mask ops i e s.effs o.op = true) ∧
        (want = true → isEff o.op = false → ∀ b, looksBox cx mask e h o.op = some b → loadOk ops i b s.effs = true ∧ (i, b) ∈ s'.loads) := by
  have hh : (bnd (stepOp cx cf mask ops e h o) fun p => two p fun e1 h1 =>
      bnd (wantT ops mask e o.guard) fun want => @Bool.rec (fun _ => Option (Env × H)) (runDraw cx cf mask ops l (i + 1) s e1 h1)
        (@Bool.rec (fun _ => Option (Env × H))
          (@Option.rec Nat (fun _ => Option (Env × H)) (runDraw cx cf mask ops l (i + 1) s e1 h1)
            (fun b => chk (loadOk ops i b s.effs) (runDraw cx cf mask ops l (i + 1) ⟨(i, b) :: s.loads, s.effs⟩ e1 h1)) (looksBox cx mask e h o.op))
          (chk (effOk ops i h h1 s.loads) (chk (storeOk cx mask ops i e s.effs o.op) (runDraw cx cf mask ops l (i + 1) ⟨s.loads, (i, h, h1) :: s.effs⟩ e1 h1))) (isEff o.op)) want) = some (e', h') := hh
  replace hh := bnd_eq_some.1 hh; obtain ⟨⟨e1, h1⟩, hs, hh⟩ := hh
  simp only [two_mk] at hh
  replace hh := bnd_eq_some.1 hh; obtain ⟨want, hw, hh⟩ := hh
  refine ⟨e1, h1, want, hs, hw, ?_⟩
  cases want with
  | false => exact ⟨s, hh, fun _ h => h, fun _ h => h, fun h => by simp at h, fun h => by simp at h⟩
  | true =>
    cases he : isEff o.op with
    | true =>
      rw [he] at hh
      obtain ⟨hk, hh⟩ := chk_eq_some.1 hh
      obtain ⟨hk2, hh⟩ := chk_eq_some.1 hh
      exact ⟨_, hh, fun _ h => h, fun _ h => by simp [h], fun _ _ => ⟨hk, by simp, hk2⟩, fun _ h => by simp at h⟩
    | false =>
      rw [he] at hh
      cases hb : looksBox cx mask e h o.op with
      | none =>
        rw [hb] at hh
        exact ⟨s, hh, fun _ h => h, fun _ h => h, fun _ h => by simp at h, fun _ _ b h => by simp at h⟩
      | some b =>
        rw [hb] at hh
        obtain ⟨hk, hh⟩ := chk_eq_some.1 hh
        exact ⟨_, hh, fun _ h => by simp [h], fun _ h => h, fun _ h => by simp at h, fun _ _ b' h => by simp only [Option.some.injEq] at h; subst h; exact ⟨hk, by simp⟩⟩

theorem runDraw_trace : ∀ (l : List Oper) (i : Nat) (s : Seen) (e e' : Env) (h h' : H), (∀ t, l[t]? = ops[i + t]?) → runDraw cx cf mask ops l i s e h = some (e', h') →
    ∃ (E : Nat → Env) (Hs : Nat → H), E i = e ∧ Hs i = h ∧ E (i + l.length) = e' ∧ Hs (i + l.length) = h' ∧
      (∀ k o, i ≤ k → ops[k]? = some o → stepOp cx cf mask ops (E k) (Hs k) o = some (E (k + 1), Hs (k + 1))) ∧
      (∀ k b, i ≤ k → LookW cx mask ops E Hs k b → ∀ p ∈ s.effs, sameVer p.2.1 p.2.2 b = true ∨ ordered ops p.1 k = true) ∧
      (∀ k, i ≤ k → EffW mask ops E k → ∀ p ∈ s.loads, sameVer (Hs k) (Hs (k + 1)) p.2 = true ∨ ordered ops p.1 k = true) ∧
      (∀ k k' b, i ≤ k → LookW cx mask ops E Hs k b → EffW mask ops E k' → k < k' → sameVer (Hs k') (Hs (k' + 1)) b = true ∨ ordered ops k k' = true) ∧
      (∀ k k' b, i ≤ k' → LookW cx mask ops E Hs k b → EffW mask ops E k' → k' < k → sameVer (Hs k') (Hs (k' + 1)) b = true ∨ ordered ops k' k = true) ∧
      (∀ k b, i ≤ k → StW cx mask ops E k b → ∀ p ∈ s.effs, sameVer p.2.1 p.2.2 b = true ∨ ordered ops p.1 k = true) ∧
      (∀ k k' b, i ≤ k' → StW cx mask ops E k b → EffW mask ops E k' → k' < k → sameVer (Hs k') (Hs (k' + 1)) b = true ∨ ordered ops k' k = true) := by
  intro l
  induction l with
  | nil =>
    intro i s e e' h h' hl hh
    have hh : some (e, h) = some (e', h') := hh
    simp only [Option.some.injEq, Prod.mk.injEq] at hh
    obtain ⟨rfl, rfl⟩ := hh
    have hno : ∀ k o, i ≤ k → ops[k]? = some o → False := fun k o hk ho => by
      have := hl (k - i)
      rw [show i + (k - i) = k by omega, ho] at this
      simp at this
    refine ⟨fun _ => e, fun _ => h, rfl, rfl, rfl, rfl, fun k o hk ho => (hno k o hk ho).elim, ?_, ?_, ?_, ?_, ?_, ?_⟩
    · rintro k b hk ⟨o, ho, _⟩; exact (hno k o hk ho).elim
    · rintro k hk ⟨o, ho, _⟩; exact (hno k o hk ho).elim
    · rintro k k' b hk ⟨o, ho, _⟩; exact (hno k o hk ho).elim
    · rintro k k' b hk _ ⟨o, ho, _⟩; exact (hno k' o hk ho).elim
    · rintro k b hk ⟨o, _, _, _, ho, _⟩; exact (hno k o hk ho).elim
    · rintro k k' b hk _ ⟨o, ho, _⟩; exact (hno k' o hk ho).elim
  | cons o l ih =>
    intro i s e e' h h' hl hh
    obtain ⟨e1, h1, want, hs, hw, s', hrun, hl1, hl2, heff, hlook⟩ := runDraw_cons hh
    have hi : ops[i]? = some o := by have := hl 0; simpa using this.symm
    obtain ⟨E, Hs, q1, q2, q3, q4, q5, q6, q7, q8, q9, q10, q11⟩ := ih (i + 1) s' e1 e' h1 h' (fun t => by
      have := hl (t + 1)
      simp only [List.getElem?_cons_succ] at this
      rw [this]; congr 1; omega) hrun
    let E' : Nat → Env := fun k => if k = i then e else E k
    let Hs' : Nat → H := fun k => if k = i then h else Hs k
    have hE : ∀ k, k ≠ i → E' k = E k := fun k hk => by simp [E', hk]
    have hH : ∀ k, k ≠ i → Hs' k = Hs k := fun k hk => by simp [Hs', hk]
    have hE0 : E' i = e := by simp [E']
    have hH0 : Hs' i = h := by simp [Hs']
    have hE1 : E' (i + 1) = e1 := by rw [hE _ (by omega), q1]
    have hH1 : Hs' (i + 1) = h1 := by rw [hH _ (by omega), q2]
    have eff' : ∀ k, k ≠ i → EffW mask ops E' k → EffW mask ops E k := fun k hk => by unfold EffW; rw [hE k hk]; exact id
    have look' : ∀ k b, k ≠ i → LookW cx mask ops E' Hs' k b → LookW cx mask ops E Hs k b := fun k b hk => by unfold LookW; rw [hE k hk, hH k hk]; exact id
    have st' : ∀ k b, k ≠ i → StW cx mask ops E' k b → StW cx mask ops E k b := fun k b hk => by unfold StW; rw [hE k hk]; exact id
    have st0 : ∀ b, StW cx mask ops E' i b → loadOk ops i b s.effs = true := by
      rintro b ⟨o', t, x, v, ho', k1, k2, k3⟩
      rw [hi] at ho'; simp only [Option.some.injEq] at ho'; subst ho'
      rw [hE0, hw] at k2
      rw [hE0] at k3
      simp only [Option.some.injEq] at k2
      have := (heff k2 (by rw [k1]; rfl)).2.2
      rw [k1] at this
      have this : @Option.rec Nat (fun _ => Bool) true (fun b => loadOk ops i b s.effs) (bnd (opnd cx mask e x) boxOf) = true := this
      rw [k3] at this
      exact this
    have eff0 : EffW mask ops E' i → effOk ops i h h1 s.loads = true ∧ (i, h, h1) ∈ s'.effs := by
      rintro ⟨o', ho', k1, k2⟩
      rw [hi] at ho'; simp only [Option.some.injEq] at ho'; subst ho'
      rw [hE0, hw] at k2
      simp only [Option.some.injEq] at k2
      exact ⟨(heff k2 k1).1, (heff k2 k1).2.1⟩
    have look0 : ∀ b, LookW cx mask ops E' Hs' i b → loadOk ops i b s.effs = true ∧ (i, b) ∈ s'.loads := by
      rintro b ⟨o', ho', k1, k2, k3⟩
      rw [hi] at ho'; simp only [Option.some.injEq] at ho'; subst ho'
      rw [hE0, hw] at k2
      rw [hE0, hH0] at k3
      simp only [Option.some.injEq] at k2
      exact hlook k2 k1 b k3
    refine ⟨E', Hs', hE0, hH0, ?_, ?_, ?_, ?_, ?_, ?_, ?_, ?_, ?_⟩
    · rw [hE _ (by simp), ← q3]; congr 1; simp; omega
    · rw [hH _ (by simp), ← q4]; congr 1; simp; omega
    · intro k o' hk ho'
      by_cases hki : k = i
      · subst hki
        rw [hi] at ho'; simp only [Option.some.injEq] at ho'; subst ho'
        rw [hE0, hH0, hE1, hH1]; exact hs
      · rw [hE k hki, hH k hki, hE (k + 1) (by omega), hH (k + 1) (by omega)]
        exact q5 k o' (by omega) ho'
    · intro k b hk hlk p hp
      by_cases hki : k = i
      · subst hki
        obtain ⟨k1, _⟩ := look0 b hlk
        exact boolRec_or (allB_all k1 p hp)
      · exact q6 k b (by omega) (look' k b hki hlk) p (hl2 p hp)
    · intro k hk hek p hp
      by_cases hki : k = i
      · subst hki
        obtain ⟨k1, _⟩ := eff0 hek
        rw [hH0, hH1]
        exact boolRec_or (allB_all k1 p hp)
      · rw [hH k hki, hH (k + 1) (by omega)]
        exact q7 k (by omega) (eff' k hki hek) p (hl1 p hp)
    · intro k k' b hk hlk hek hlt
      have hk'i : k' ≠ i := by omega
      rw [hH k' hk'i, hH (k' + 1) (by omega)]
      by_cases hki : k = i
      · subst hki
        obtain ⟨_, k2⟩ := look0 b hlk
        exact q7 k' (by omega) (eff' k' hk'i hek) (k, b) k2
      · exact q8 k k' b (by omega) (look' k b hki hlk) (eff' k' hk'i hek) hlt
    · intro k k' b hk hlk hek hlt
      have hki : k ≠ i := by omega
      by_cases hk'i : k' = i
      · subst hk'i
        obtain ⟨_, k2⟩ := eff0 hek
        rw [hH0, hH1]
        exact q6 k b (by omega) (look' k b hki hlk) (k', h, h1) k2
      · rw [hH k' hk'i, hH (k' + 1) (by omega)]
        exact q9 k k' b (by omega) (look' k b hki hlk) (eff' k' hk'i hek) hlt
    · intro k b hk hlk p hp
      by_cases hki : k = i
      · subst hki
        exact boolRec_or (allB_all (st0 b hlk) p hp)
      · exact q10 k b (by omega) (st' k b hki hlk) p (hl2 p hp)
    · intro k k' b hk hlk hek hlt
      have hki : k ≠ i := by omega
      by_cases hk'i : k' = i
      · subst hk'i
        obtain ⟨_, k2⟩ := eff0 hek
        rw [hH0, hH1]
        exact q10 k b (by omega) (st' k b hki hlk) (k', h, h1) k2
      · rw [hH k' hk'i, hH (k' + 1) (by omega)]
        exact q11 k k' b (by omega) (st' k b hki hlk) (eff' k' hk'i hek) hlt

/-! ### one operation -/

/-- An operation comes to a value, at once or by a call. -/
def Exec (cx : Ctx) (cf : CallF) (mask : Nat) (e : Env) (h : H) (op : Op) (v : T) (h' : H) : Prop :=
  opH op cx mask e h = some (.val v h') ∨ ∃ f args, opH op cx mask e h = some (.call f args) ∧ cf f args h = some (v, h')

theorem stepOp_inv {e e' : Env} {h h' : H} {o : Oper} (hh : stepOp cx cf mask ops e h o = some (e', h')) :
    (wantT ops mask e o.guard = some false ∧ e.dst mask o.dst .undef = some e' ∧ h' = h) ∨
    (wantT ops mask e o.guard = some true ∧ ∃ v, Exec cx cf mask e h o.op v h' ∧ e.dst mask o.dst v = some e') := by
  replace hh := bnd_eq_some.1 hh; obtain ⟨want, hw, hh⟩ := hh
  cases want with
  | false =>
    left
    have hh : (bnd (e.dst mask o.dst .undef) fun e' => some (e', h)) = some (e', h') := hh
    replace hh := bnd_eq_some.1 hh; obtain ⟨e1, he1, hh⟩ := hh
    simp only [Option.some.injEq, Prod.mk.injEq] at hh
    obtain ⟨rfl, rfl⟩ := hh
    exact ⟨hw, he1, rfl⟩
  | true =>
    right
    refine ⟨hw, ?_⟩
    have hh : (bnd (opH o.op cx mask e h) fun d => @Did.rec (fun _ => Option (Env × TI.H))
      (fun v h' => bnd (e.dst mask o.dst v) fun e' => some (e', h'))
      (fun f args => bnd (cf f args h) fun r => two r fun v h' => bnd (e.dst mask o.dst v) fun e' => some (e', h')) d) = some (e', h') := hh
    replace hh := bnd_eq_some.1 hh; obtain ⟨d, hop, hh⟩ := hh
    cases d with
    | val v h1 =>
      have hh : (bnd (e.dst mask o.dst v) fun e' => some (e', h1)) = some (e', h') := hh
      replace hh := bnd_eq_some.1 hh; obtain ⟨e1, he1, hh⟩ := hh
      simp only [Option.some.injEq, Prod.mk.injEq] at hh
      obtain ⟨rfl, rfl⟩ := hh
      exact ⟨v, .inl hop, he1⟩
    | «call» f args =>
      have hh : (bnd (cf f args h) fun r => two r fun v h' => bnd (e.dst mask o.dst v) fun e' => some (e', h')) = some (e', h') := hh
      replace hh := bnd_eq_some.1 hh; obtain ⟨⟨v, h1⟩, hcall, hh⟩ := hh
      simp only [two_mk] at hh
      replace hh := bnd_eq_some.1 hh; obtain ⟨e1, he1, hh⟩ := hh
      simp only [Option.some.injEq, Prod.mk.injEq] at hh
      obtain ⟨rfl, rfl⟩ := hh
      exact ⟨v, .inr ⟨f, args, hop, hcall⟩, he1⟩

theorem exec_ran {P : Program} {base : Nat} {w : World} {μ : Mu} {e : Env} {h h' : H} {a : Act} {o : Oper} {v : T} (tys : TysOk P cx) (ck : CallOk P cx cf)
    (s : St cx base w.heap μ h) (r : RelE w.heap μ mask e a.tmps) (hx : Exec cx cf mask e h o.op v h') : Ran P (AfterG cx base w μ h v h') ((execOp a.eval o).run P w) := by
  rcases hx with hop | ⟨f, args, hop, hcall⟩
  · exact ((opH_val tys s r hop).ran).mono fun c w' hc => ⟨hc, mv_opH s.wf v h' hop⟩
  · obtain ⟨_, cargs, hL, hrun⟩ := opH_call (P := P) s r hop
    rw [hrun]
    exact ck f args h v h' hcall base w μ cargs s hL

theorem Exec.congr {e e' : Env} {h h' : H} {op : Op} {v : T} (hx : ∀ x ∈ op.operands, opnd cx mask e x = opnd cx mask e' x) (hh : Exec cx cf mask e h op v h') : Exec cx cf mask e' h op v h' := by
  unfold Exec at *
  rw [opH_congr hx] at hh
  exact hh

/-- Nothing but a call or a change leaves a box other than it was. -/
theorem isEff_call {c : Call} {e : Env} {h : H} {f : FuncId} {args : List T} (hh : opH (.call c) cx mask e h = some (.call f args)) : isEff (.call c) = true := by
  have hh : hCall c cx mask e h = some (.call f args) := hh
  replace hh := bnd_eq_some.1 hh; obtain ⟨l, hl, hh⟩ := hh
  cases hc : c.callee with
  | builtin b => rw [hc] at hh; exact (builtin_no_call hh).elim
  | invoke x m => rw [hc] at hh; simp at hh
  | value g => simp [isEff, hc]

theorem exec_val {e : Env} {h h' : H} {op : Op} {v : T} (hne : isEff op = false) (hh : Exec cx cf mask e h op v h') : opH op cx mask e h = some (.val v h') := by
  rcases hh with hop | ⟨f, args, hop, _⟩
  · exact hop
  · by_cases hc : ∃ c, op = .call c
    · obtain ⟨c, rfl⟩ := hc
      rw [isEff_call hop] at hne; simp at hne
    · exact absurd hop (nc_other (fun c hq => hc ⟨c, hq⟩) f args)

/-! ### the slots that an operation looks at -/

noncomputable def rVars (mask : Nat) (e : Env) : List Nat → Vars
  | [] => .nil
  | s :: l => match e.get mask s with
    | some v => .cons s v (rVars mask e l)
    | none => rVars mask e l

theorem look_rVars {e : Env} {s : Nat} : ∀ (l : List Nat), look (rVars mask e l) s = if s ∈ l then e.get mask s else none := by
  intro l
  induction l with
  | nil => simp [rVars, look]
  | cons t l ih =>
    unfold rVars
    cases hg : e.get mask t with
    | none =>
      simp only [ih, List.mem_cons]
      by_cases h : s = t
      · subst h; simp [hg]
      · simp [h]
    | some v =>
      simp only [look_cons, ih, List.mem_cons]
      by_cases h : t = s
      · subst h; simp [hg]
      · simp [h, Ne.symm h]

noncomputable def rEnv (mask : Nat) (e : Env) (l : List Nat) : Env := ⟨rVars mask e l, rVars mask e l⟩

theorem rEnv_get {e : Env} {s : Nat} {l : List Nat} : (rEnv mask e l).get mask s = if s ∈ l then e.get mask s else none := by
  show @Bool.rec (fun _ => Option T) (look (rVars mask e l) s) (look (rVars mask e l) s) (lasts mask s) = _
  rw [look_rVars]
  cases lasts mask s <;> rfl

theorem opnd_rEnv {e : Env} {o : Oper} {x : Operand} (hx : x ∈ o.op.operands) : opnd cx mask e x = opnd cx mask (rEnv mask e (o.looksAt ops)) x := by
  cases x with
  | tmp t =>
    show e.get mask t = (rEnv mask e (o.looksAt ops)).get mask t
    rw [rEnv_get, if_pos]
    unfold Oper.looksAt
    exact List.mem_append_left _ (List.mem_filterMap.2 ⟨.tmp t, by simpa using hx, rfl⟩)
  | const c => rfl
  | global g => rfl
  | func f => rfl

theorem wantT_rEnv {e : Env} {o : Oper} : wantT ops mask (rEnv mask e (o.looksAt ops)) o.guard = wantT ops mask e o.guard := by
  cases hg : o.guard with
  | none => rfl
  | some p =>
    obtain ⟨j, want⟩ := p
    show (bnd (bnd (bnd (nthD ops.toList j) fun o => o.dst) fun d => (rEnv mask e (o.looksAt ops)).get mask d) fun v => _) = (bnd (bnd (bnd (nthD ops.toList j) fun o => o.dst) fun d => e.get mask d) fun v => _)
    cases hp : (bnd (nthD ops.toList j) fun o => o.dst) with
    | none => rfl
    | some d =>
      simp only [bnd_some]
      rw [rEnv_get, if_pos]
      unfold Oper.looksAt
      refine List.mem_append_right _ ?_
      replace hp := bnd_eq_some.1 hp; obtain ⟨p, hp', hpd⟩ := hp
      rw [nthD_eq] at hp'
      have : ops[j]? = some p := by simpa using hp'
      simp [hg, this, hpd]
end
end Go.TI

/- Regions that draw their order: the heap at any stage, the step. -/
namespace Go.TI
set_option linter.unusedVariables false
set_option linter.unusedSectionVars false

/-! ### from one table of places to another -/

theorem RelV.conv {hp : Array Obj} {μ μ' : Mu} {v : T} {c : Value} (h : RelV hp μ v c) {n : Nat} (hl : Low n v) (hm : ∀ b L, b < n → μ b = some L → μ' b = some L)
    (hi : ∀ i, InMu μ' i → InMu μ i) : RelV hp μ' v c := by
  induction h with
  | undef => exact .undef
  | bool b => exact .bool b
  | int k m => exact .int k m
  | str s h => exact .str s h
  | nilp => exact .nilp
  | ptr b ep i j L a hb he ha => cases hl with | ptr _ _ _ _ h => exact .ptr b ep i j L a (hm b L h hb) he ha
  | tptr cells blk off arr t fz hn hh hs hc hr ih =>
    cases hl with | tptr _ h => exact .tptr cells blk off arr t fz (fun k => hn (hi _ k)) hh hs hc fun k v hk => ih k v hk (h v (List.mem_of_getElem? hk))
  | tree0 full a => exact .tree0 full a
  | tree e es full blk off cap sz arr t fz hn hh hl' hf hu hs hc hr ih =>
    cases hl with | tree _ _ h => exact .tree e es full blk off cap sz arr t fz (fun k => hn (hi _ k)) hh hl' hf hu hs hc fun k v hk => ih k v hk (h v (List.mem_of_getElem? hk))
  | ewild a cap => exact .ewild a cap
  | arr b ep o l full L a cp hb he hl' h' => cases hl with | arr _ _ _ _ _ h => exact .arr b ep o l full L a cp (hm b L h hb) he hl' h'
  | func f caps cs hs hr ih => cases hl with | func _ _ h => exact .func f caps cs hs fun k v hk => ih k v hk (h v (List.mem_of_getElem? hk))
  | nilf => exact .nilf
  | nili => exact .nili
  | iface t v c h ih => cases hl with | iface _ _ h => exact .iface t v c (ih h)
  | iter b L a hb h' => cases hl with | iter _ h => exact .iter b L a (hm b L h hb) h'
  | map b L i hb h' => cases hl with | map _ h => exact .map b L i (hm b L h hb) h'
  | nilm => exact .nilm
  | agg cells cs hs hc hr ih => cases hl with | agg _ h => exact .agg cells cs hs hc fun k v hk => ih k v hk (h v (List.mem_of_getElem? hk))
  | tuple vs cs hs hr ih => cases hl with | tuple _ h => exact .tuple vs cs hs fun k v hk => ih k v hk (h v (List.mem_of_getElem? hk))

theorem BoxOk.conv {hp : Array Obj} {μ μ' : Mu} {L : Loc} {x : Box} (h : BoxOk hp μ L x) {n : Nat} (hl : ∀ v ∈ flat x.elems, Low n v) (hm : ∀ b L, b < n → μ b = some L → μ' b = some L)
    (hi : ∀ i, InMu μ' i → InMu μ i) : BoxOk hp μ' L x := by
  refine ⟨h.ep, h.sz, fun k => ?_, fun k => ?_⟩
  · have p := h.plain k
    obtain ⟨arr, t, h1, h2, h3⟩ := p.row
    exact ⟨⟨arr, t, h1, h2, h3.1, fun k v hv => (h3.2 k v hv).conv (hl v (List.mem_of_getElem? hv)) hm hi⟩, p.room, p.exact_, p.size, p.scalar⟩
  · obtain ⟨h0, h1 | ⟨es, h1, h2, h3⟩ | ⟨mb, m, pos, since, c0, h1, h2, h3, h4⟩⟩ := h.iter k
    · exact ⟨h0, .inl h1⟩
    rotate_left
    · exact ⟨h0, .inr (.inr ⟨mb, m, pos, since, c0, h1, h2.conv (hl _ (by rw [h1]; simp [flat, T.cells])) hm hi, h3, h4⟩)⟩
    · refine ⟨h0, .inr (.inl ⟨es, h1, h2, fun i y hy => ?_⟩)⟩
      obtain ⟨k, v, me, g1, g2, g3, g4, g5⟩ := h3 i y hy
      have hlow := hl y (List.mem_flatMap.2 ⟨y, List.mem_of_getElem? hy, by rw [g1]; simp [T.cells]⟩)
      rw [g1] at hlow
      cases hlow with | tuple _ hlow => exact ⟨k, v, me, g1, g2, g3, g4.conv (hlow k (by simp)) hm hi, g5.conv (hlow v (by simp)) hm hi⟩

theorem Low.mono {n n' : Nat} {v : T} (h : Low n v) (hn : n ≤ n') : Low n' v := by
  induction h with
  | ptr b ep i j h => exact .ptr _ _ _ _ (by omega)
  | arr b ep o l f h => exact .arr _ _ _ _ _ (by omega)
  | iter b h => exact .iter _ (by omega)
  | map b h => exact .map _ (by omega)
  | _ => constructor <;> assumption

theorem St.congr {cx : Ctx} {base : Nat} {hp : Array Obj} {μ : Mu} {h h2 : H} (s : St cx base hp μ h) (hw : h2.boxes.length = h2.size) (hg : ∀ b L, μ b = some L → h2.get b = h.get b) : St cx base hp μ h2 :=
  ⟨hw, s.fit, fun b L hb => by obtain ⟨x, h1, hk⟩ := s.box b L hb; exact ⟨x, by rw [hg b L hb]; exact h1, hk⟩, s.inj, s.low, s.apart, s.resLt, s.glob⟩

theorem H.get_some {h : H} (hw : h.boxes.length = h.size) {b : Nat} (hb : b < h.size) : ∃ x, h.get b = some x := by
  rw [H.get_eq, if_pos hb]
  exact ⟨h.boxes[h.size - 1 - b]'(by omega), by simp⟩

/-! ### where a box was made -/

def crN (Hs : Nat → H) (b : Nat) : Nat → Nat
  | 0 => 0
  | k + 1 => if b < (Hs k).size then crN Hs b k else k + 1

theorem crN_le (Hs : Nat → H) (b n : Nat) : crN Hs b n ≤ n := by
  induction n with
  | zero => simp [crN]
  | succ n ih => unfold crN; split <;> omega

theorem crN_lt {Hs : Nat → H} {b : Nat} {n : Nat} (hmono : ∀ k, k < n → (Hs k).size ≤ (Hs (k + 1)).size) (hb : b < (Hs n).size) : b < (Hs (crN Hs b n)).size := by
  induction n with
  | zero => exact hb
  | succ n ih =>
    unfold crN
    split
    · rename_i h; exact ih (fun k hk => hmono k (by omega)) h
    · exact hb

theorem crN_not {Hs : Nat → H} {b : Nat} : ∀ {n p : Nat}, p < crN Hs b n → (∀ k, k < n → (Hs k).size ≤ (Hs (k + 1)).size) → (Hs p).size ≤ b := by
  intro n
  induction n with
  | zero => intro p hp; simp [crN] at hp
  | succ n ih =>
    intro p hp hmono
    unfold crN at hp
    split at hp
    · exact ih hp fun k hk => hmono k (by omega)
    · rename_i h
      -- p < n + 1
      have : ∀ d, p + d = n → (Hs p).size ≤ (Hs n).size := by
        intro d
        induction d generalizing p with
        | zero => intro e; rw [show p = n by omega]; exact Nat.le_refl _
        | succ d ihd =>
          intro e
          have := hmono p (by omega)
          have := ihd (p := p + 1) (by omega) (by omega)
          omega
      have := this (n - p) (by omega)
      omega

section
variable {Hs : Nat → H} {n : Nat} 

theorem size_mono (hmono : ∀ k, k < n → (Hs k).size ≤ (Hs (k + 1)).size) {p p' : Nat} (h : p ≤ p') (hp : p' ≤ n) : (Hs p).size ≤ (Hs p').size := by
  obtain ⟨d, rfl⟩ := Nat.exists_eq_add_of_le h
  clear h
  induction d with
  | zero => exact Nat.le_refl _
  | succ d ih =>
    have h1 := ih (by omega)
    have h2 := hmono (p + d) (by omega)
    have : p + (d + 1) = p + d + 1 := by omega
    rw [this]; omega

theorem crN_iff (hmono : ∀ k, k < n → (Hs k).size ≤ (Hs (k + 1)).size) {b k : Nat} (hb : b < (Hs n).size) (hk : k ≤ n) : b < (Hs k).size ↔ crN Hs b n ≤ k := by
  constructor
  · intro h
    rcases Nat.lt_or_ge k (crN Hs b n) with hlt | hge
    · have := crN_not hlt hmono; omega
    · exact hge
  · intro h
    have := crN_lt hmono hb
    have := size_mono hmono h hk
    omega

theorem get_between (hmono : ∀ k, k < n → (Hs k).size ≤ (Hs (k + 1)).size) {b p p' : Nat} (hpp : p ≤ p') (hk : ∀ k, p ≤ k → k < p' → (Hs (k + 1)).get b = (Hs k).get b) : (Hs p').get b = (Hs p).get b := by
  obtain ⟨d, rfl⟩ := Nat.exists_eq_add_of_le hpp
  clear hpp
  induction d with
  | zero => rfl
  | succ d ih =>
    have h1 := ih fun k a b => hk k a (by omega)
    have h2 := hk (p + d) (by omega) (by omega)
    have : p + (d + 1) = p + d + 1 := by omega
    rw [this, h2, h1]
end

/-- The heap at a stage: every box as it was made, or as it is behind the changes so far (those below q). -/
noncomputable def PH (Hs : Nat → H) (n : Nat) (q : Nat → Nat) : H :=
  ⟨(Hs n).size, 0, (List.range (Hs n).size).reverse.map fun b => ((Hs (max (q b) (crN Hs b n))).get b).getD default⟩

theorem PH_wf (Hs : Nat → H) (n : Nat) (q : Nat → Nat) : (PH Hs n q).boxes.length = (PH Hs n q).size := by simp [PH]

theorem PH_get {Hs : Nat → H} {n b : Nat} {q : Nat → Nat} (hmono : ∀ k, k < n → (Hs k).size ≤ (Hs (k + 1)).size) (hwf : ∀ k, k ≤ n → (Hs k).boxes.length = (Hs k).size) (hq : q b ≤ n) (hb : b < (Hs n).size) :
    (PH Hs n q).get b = (Hs (max (q b) (crN Hs b n))).get b := by
  have hm : max (q b) (crN Hs b n) ≤ n := by have := crN_le Hs b n; omega
  have hlt : b < (Hs (max (q b) (crN Hs b n))).size := (crN_iff hmono hb hm).2 (by omega)
  obtain ⟨x, hx⟩ := H.get_some (hwf _ hm) hlt
  rw [H.get_eq]
  have hs : (PH Hs n q).size = (Hs n).size := rfl
  rw [hs, if_pos hb]
  show ((List.range (Hs n).size).reverse.map fun b => ((Hs (max (q b) (crN Hs b n))).get b).getD default)[(Hs n).size - 1 - b]? = _
  rw [List.getElem?_map, List.getElem?_reverse (by simp; omega)]
  have : (List.range (Hs n).size).length - 1 - ((Hs n).size - 1 - b) = b := by simp; omega
  rw [this]
  simp [hb, hx]

/-! ### the last that set a slot -/

def lwN (ops : Array Oper) (listed : Array Bool) (s : Nat) : Nat → Nat
  | 0 => 0
  | k + 1 => if listed.getD k false = true ∧ (ops[k]?).bind (·.dst) = some s then k + 1 else lwN ops listed s k

theorem lwN_spec {ops : Array Oper} {listed : Array Bool} {s : Nat} : ∀ (n : Nat), lwN ops listed s n = 0 ∨ ∃ k, lwN ops listed s n = k + 1 ∧ k < n ∧ listed.getD k false = true ∧ (ops[k]?).bind (·.dst) = some s := by
  intro n
  induction n with
  | zero => left; rfl
  | succ n ih =>
    unfold lwN
    split
    · rename_i h; right; exact ⟨n, rfl, by omega, h.1, h.2⟩
    · rcases ih with h | ⟨k, h1, h2, h3⟩
      · left; exact h
      · right; exact ⟨k, h1, by omega, h3⟩

theorem lwN_ge {ops : Array Oper} {listed : Array Bool} {s : Nat} : ∀ {n k : Nat}, k < n → listed.getD k false = true → (ops[k]?).bind (·.dst) = some s → k + 1 ≤ lwN ops listed s n := by
  intro n
  induction n with
  | zero => intro k hk; omega
  | succ n ih =>
    intro k hk h1 h2
    unfold lwN
    split
    · omega
    · rename_i h
      rcases Nat.eq_or_lt_of_le (Nat.le_of_lt_succ hk) with rfl | hlt
      · exact absurd ⟨h1, h2⟩ h
      · exact ih hlt h1 h2

theorem lwN_le {ops : Array Oper} {listed : Array Bool} {s : Nat} (n : Nat) : lwN ops listed s n ≤ n := by
  rcases lwN_spec (ops := ops) (listed := listed) (s := s) n with h | ⟨k, h1, h2, _⟩ <;> omega

theorem lwN_congr {ops : Array Oper} {listed listed' : Array Bool} {s : Nat} : ∀ {n : Nat}, (∀ k, k < n → (ops[k]?).bind (·.dst) = some s → listed'.getD k false = listed.getD k false) → lwN ops listed' s n = lwN ops listed s n := by
  intro n
  induction n with
  | zero => intro _; rfl
  | succ n ih =>
    intro h
    have ih := ih fun k hk => h k (by omega)
    unfold lwN
    by_cases hd : (ops[n]?).bind (·.dst) = some s
    · rw [h n (by omega) hd, ih]
    · simp [hd, ih]
end Go.TI

/- Regions that draw their order: one step of any order; the whole. -/
namespace Go.TI
set_option linter.unusedVariables false

/-- All that is known of a region's trace, and of the state at its beginning. -/
structure Dr (P : Program) (cx : Ctx) (cf : CallF) (base mask m : Nat) (ops : Array Oper) (E : Nat → Env) (Hs : Nat → H) (ws : World) (μs : Mu) : Prop where
  tys : TysOk P cx
  ck : CallOk P cx cf
  dst : DstOk m ops
  tr : Trace cx cf mask ops E Hs
  st0 : St cx base ws.heap μs (Hs 0)
  pairs : ∀ i j oi oj, ops[i]? = some oi → ops[j]? = some oj → i < j → (oi.apart ops oj = true ∧ (isEff oi.op = true → isEff oj.op = true → isStore oi.op = true ∧ isStore oj.op = true)) ∨ ordered ops i j = true
  back : ∀ j o, ops[j]? = some o → ∀ e ∈ o.after, Region.binds .any e = true → e.on < j
  low1 : ∀ k, k ≤ ops.size → ∀ s v, (E k).get mask s = some v → Low (Hs k).size v
  low2 : ∀ k, k ≤ ops.size → ∀ b x, (μs b ≠ none ∨ (Hs 0).size ≤ b) → (Hs k).get b = some x → ∀ v ∈ flat x.elems, Low (Hs k).size v
  grow : ∀ k, k < ops.size → Grow (Hs k) (Hs (k + 1))
  wf : ∀ k, k ≤ ops.size → (Hs k).boxes.length = (Hs k).size

/-- What stands when the operations in 'listed' are done. -/
structure Inv (cx : Ctx) (base mask m : Nat) (ops : Array Oper) (E : Nat → Env) (Hs : Nat → H) (ws : World) (μs : Mu) (listed : Array Bool) (a : Act) (w : World) (μ : Mu) (q : Nat → Nat) : Prop where
  cl : Cl ops listed
  size : a.tmps.size = m
  defs : a.defers = []
  qle : ∀ b, q b ≤ ops.size
  effs : ∀ k b, EffW mask ops E k → b < (Hs k).size → sameVer (Hs k) (Hs (k + 1)) b = false → (listed.getD k false = true ↔ k < q b)
  st : St cx base w.heap μ (PH Hs ops.size q)
  slots : ∀ s v, (E (lwN ops listed s ops.size)).get mask s = some v → RelV w.heap μ v (a.tmps.getD s Go.undef)
  dom : ∀ b, μ b ≠ none ↔ (μs b ≠ none ∨ ((Hs 0).size ≤ b ∧ b < (Hs ops.size).size ∧ listed.getD (crN Hs b ops.size - 1) false = true))
  ext : ExtW ws μs w μ

section
variable {P : Program} {cx : Ctx} {cf : CallF} {base mask m : Nat} {ops : Array Oper} {E : Nat → Env} {Hs : Nat → H} {ws w : World} {μs μ : Mu} {listed : Array Bool} {a : Act} {q : Nat → Nat}

theorem Dr.mono (D : Dr P cx cf base mask m ops E Hs ws μs) : ∀ k, k < ops.size → (Hs k).size ≤ (Hs (k + 1)).size := fun k hk => (D.grow k hk).size

theorem Dr.lt0 (D : Dr P cx cf base mask m ops E Hs ws μs) {b : Nat} (hb : μs b ≠ none) : b < (Hs 0).size := by
  obtain ⟨L, hL⟩ := Option.ne_none_iff_exists'.1 hb
  exact D.st0.get_lt hL

/-- What is no change leaves the boxes as they are. -/
theorem Dr.still (D : Dr P cx cf base mask m ops E Hs ws μs) {k b : Nat} (hk : k < ops.size) (hb : b < (Hs k).size) (hne : ¬ EffW mask ops E k) : (Hs (k + 1)).get b = (Hs k).get b := by
  have ho : ops[k]? = some ops[k] := by simp [hk]
  rcases stepOp_inv (D.tr.step k _ ho) with ⟨_, _, h⟩ | ⟨hw, v, hx, _⟩
  · rw [h]
  · have he : isEff ops[k].op = false := by
      cases h : isEff ops[k].op with
      | false => rfl
      | true => exact absurd ⟨_, ho, h, hw⟩ hne
    rcases opH_heap (h2 := Hs k) he (fun _ _ _ => rfl) (exec_val he hx) with ⟨h, _⟩ | ⟨f, x, _, _, _, h, _⟩
    · rw [h]
    · rw [h]; exact H.get_cons_other hb x

theorem Dr.ver (D : Dr P cx cf base mask m ops E Hs ws μs) {k b : Nat} (hk : k < ops.size) (hb : b < (Hs k).size) (hs : sameVer (Hs k) (Hs (k + 1)) b = true) : (Hs (k + 1)).get b = (Hs k).get b := by
  obtain ⟨x, hx⟩ := H.get_some (D.wf k (by omega)) hb
  obtain ⟨y, hy, hor⟩ := (D.grow k hk).ver b x hx
  rcases hor with rfl | hlt
  · rw [hx, hy]
  · unfold sameVer at hs
    rw [hx, hy] at hs
    have hs : Nat.beq x.ver y.ver = true := hs
    have := Nat.eq_of_beq_eq_true hs
    omega

theorem Dr.same (D : Dr P cx cf base mask m ops E Hs ws μs) {k b : Nat} (hk : k < ops.size) (hb : b < (Hs k).size) (h : EffW mask ops E k → sameVer (Hs k) (Hs (k + 1)) b = false → False) : (Hs (k + 1)).get b = (Hs k).get b := by
  by_cases hek : EffW mask ops E k
  · cases hsv : sameVer (Hs k) (Hs (k + 1)) b with
    | true => exact D.ver hk hb hsv
    | false => exact (h hek hsv).elim
  · exact D.still hk hb hek

theorem Dr.phGet (D : Dr P cx cf base mask m ops E Hs ws μs) {b : Nat} (hq : q b ≤ ops.size) (hb : b < (Hs ops.size).size) : (PH Hs ops.size q).get b = (Hs (max (q b) (crN Hs b ops.size))).get b :=
  PH_get D.mono D.wf hq hb

theorem Inv.lt (D : Dr P cx cf base mask m ops E Hs ws μs) (I : Inv cx base mask m ops E Hs ws μs listed a w μ q) {b : Nat} {L : Loc} (hb : μ b = some L) : b < (Hs ops.size).size := I.st.get_lt hb

variable {j : Nat} {o : Oper}

/-- What is ready is not yet listed, and all that it waits for is. -/
structure Rdy (ops : Array Oper) (listed : Array Bool) (j : Nat) (o : Oper) : Prop where
  op : ops[j]? = some o
  lt : j < ops.size
  not : listed.getD j false = false
  before : ∀ i, ordered ops i j = true → listed.getD i false = true
  behind : ∀ k, ordered ops j k = true → listed.getD k false = false
  edges : ∀ e ∈ o.after, Region.binds .any e = true → listed.getD e.on false = true

theorem getD_off {listed : Array Bool} {i : Nat} (h : listed.getD i true = false) : listed.getD i false = false := by
  rcases Nat.lt_or_ge i listed.size with h' | h'
  · simp [h'] at h ⊢; exact h
  · simp [Array.getElem?_eq_none h'] at h

theorem rdy (c : Cl ops listed) (hj : j ∈ Region.ready .any ops listed) : ∃ o, Rdy ops listed j o := by
  obtain ⟨h0, o, ho, hall⟩ := mem_ready.1 hj
  have hlt : j < ops.size := (Array.getElem?_eq_some_iff.1 ho).1
  refine ⟨o, ho, hlt, getD_off h0, fun i hi => ordered_in c hi ho hall, fun k hk => ?_, hall⟩
  cases hb : listed.getD k false with
  | false => rfl
  | true =>
    have hks : k < listed.size := by
      rcases Nat.lt_or_ge k listed.size with h | h
      · exact h
      · simp [Array.getElem?_eq_none h] at hb
    have hko : ops[k]? = some (ops[k]'(by rw [← c.size]; exact hks)) := by
      have : k < ops.size := by rw [← c.size]; exact hks
      simp [this]
    have := ordered_in c hk hko (c.closed k _ hko hb)
    rw [getD_off h0] at this; simp at this

theorem Cl.set (c : Cl ops listed) (r : Rdy ops listed j o) : Cl ops (listed.setIfInBounds j true) := by
  refine ⟨by simp [c.size], fun k ok hk hl e he hb => ?_⟩
  by_cases hjk : j = k
  · subst hjk
    have : ok = o := Option.some.inj (hk.symm.trans r.op)
    subst this
    exact getD_set_true (r.edges e he hb)
  · rw [getD_set_ne false hjk] at hl
    exact getD_set_true (c.closed k ok hk hl e he hb)

theorem set_same (c : Cl ops listed) (r : Rdy ops listed j o) : (listed.setIfInBounds j true).getD j false = true := by
  have : j < listed.size := by rw [c.size]; exact r.lt
  simp [this]

/-- The slots that an operation looks at hold what they hold in the text's order. -/
theorem Inv.look (D : Dr P cx cf base mask m ops E Hs ws μs) (I : Inv cx base mask m ops E Hs ws μs listed a w μ q) (r : Rdy ops listed j o) {s : Nat} (hs : s ∈ o.looksAt ops) :
    (E (lwN ops listed s ops.size)).get mask s = (E j).get mask s := by
  have writers : ∀ k ok, ops[k]? = some ok → ok.dst = some s → (k < j → listed.getD k false = true) ∧ (j < k → listed.getD k false = false) := by
    intro k ok hk hd
    refine ⟨fun hlt => ?_, fun hlt => ?_⟩
    · rcases D.pairs k j ok o hk r.op hlt with ⟨hap, _⟩ | hor
      · exact absurd hs ((Oper.apart_spec hap).1 s hd)
      · exact r.before k hor
    · rcases D.pairs j k o ok r.op hk hlt with ⟨hap, _⟩ | hor
      · exact absurd hs ((Oper.apart_spec hap).2.2 s hd)
      · exact r.behind k hor
  have hlw : lwN ops listed s ops.size ≤ j := by
    rcases lwN_spec (ops := ops) (listed := listed) (s := s) ops.size with h | ⟨k, h1, h2, h3, h4⟩
    · omega
    · have hko : ops[k]? = some ops[k] := by simp [h2]
      rw [hko] at h4
      have hw := writers k _ hko h4
      rcases Nat.lt_trichotomy k j with h | h | h
      · omega
      · subst h; rw [r.not] at h3; simp at h3
      · rw [hw.2 h] at h3; simp at h3
  -- no writer in between
  have key : ∀ d, lwN ops listed s ops.size + d ≤ j → (E (lwN ops listed s ops.size + d)).get mask s = (E (lwN ops listed s ops.size)).get mask s := by
    intro d
    induction d with
    | zero => intro _; rfl
    | succ d ih =>
      intro hd
      have hk : lwN ops listed s ops.size + d < ops.size := by have := r.lt; omega
      have hko : ops[lwN ops listed s ops.size + d]? = some ops[lwN ops listed s ops.size + d] := by simp [hk]
      rw [← ih (by omega)]
      have hnot : ops[lwN ops listed s ops.size + d].dst ≠ some s := by
        intro hd'
        have hw := (writers _ _ hko hd').1 (by omega)
        have := lwN_ge (n := ops.size) hk hw (by rw [hko]; exact hd')
        omega
      have hset : ∀ v e', (E (lwN ops listed s ops.size + d)).dst mask ops[lwN ops listed s ops.size + d].dst v = some e' → e'.get mask s = (E (lwN ops listed s ops.size + d)).get mask s := by
        intro v e' hh
        cases hdst : ops[lwN ops listed s ops.size + d].dst with
        | none => rw [hdst] at hh; have hh : some _ = some e' := hh; simp only [Option.some.injEq] at hh; rw [hh]
        | some t =>
          rw [hdst] at hh hnot
          have hne : s ≠ t := fun e => hnot (by rw [e])
          rw [Env.get_set (show Env.set mask _ t v = some e' from hh) s, if_neg hne]
      rcases stepOp_inv (D.tr.step _ _ hko) with ⟨_, hh, _⟩ | ⟨_, v, _, hh⟩
      · exact hset _ _ hh
      · exact hset _ _ hh
  have := key (j - lwN ops listed s ops.size) (by omega)
  rw [show lwN ops listed s ops.size + (j - lwN ops listed s ops.size) = j by omega] at this
  exact this.symm

theorem Inv.relE (D : Dr P cx cf base mask m ops E Hs ws μs) (I : Inv cx base mask m ops E Hs ws μs listed a w μ q) (r : Rdy ops listed j o) : RelE w.heap μ mask (rEnv mask (E j) (o.looksAt ops)) a.tmps := by
  intro s v hv
  rw [rEnv_get] at hv
  split at hv
  · rename_i hs
    exact I.slots s v (by rw [I.look D r hs]; exact hv)
  · simp at hv

/-- The slots behind a step. -/
theorem Inv.slots' (D : Dr P cx cf base mask m ops E Hs ws μs) (I : Inv cx base mask m ops E Hs ws μs listed a w μ q) (r : Rdy ops listed j o) {hp' : Array Obj} {μ' : Mu} (x : Ext w.heap μ hp' μ') {v : T} {c : Value}
    (hv : RelV hp' μ' v c) (hset : (E j).dst mask o.dst v = some (E (j + 1))) : ∀ s u, (E (lwN ops (listed.setIfInBounds j true) s ops.size)).get mask s = some u → RelV hp' μ' u ((a.put o.dst c).tmps.getD s Go.undef) := by
  intro s u hu
  by_cases hd : o.dst = some s
  · have hlw : lwN ops (listed.setIfInBounds j true) s ops.size = j + 1 := by
      have h1 := lwN_ge (ops := ops) (s := s) r.lt (set_same I.cl r) (by rw [r.op]; exact hd)
      rcases lwN_spec (ops := ops) (listed := listed.setIfInBounds j true) (s := s) ops.size with h | ⟨k, e1, e2, e3, e4⟩
      · omega
      · rcases Nat.lt_trichotomy k j with h | h | h
        · omega
        · omega
        · have hko : ops[k]? = some ops[k] := by simp [e2]
          rw [hko] at e4
          rw [getD_set_ne false (by omega)] at e3
          rcases D.pairs j k o _ r.op hko h with ⟨hap, _⟩ | hor
          · exact absurd e4 ((Oper.apart_spec hap).2.1 s hd)
          · rw [r.behind k hor] at e3; simp at e3
    rw [hlw] at hu
    rw [hd] at hset ⊢
    rw [Env.get_set (show Env.set mask _ s v = some _ from hset) s] at hu
    simp only [if_true, Option.some.injEq] at hu; subst hu
    have hlt : s < a.tmps.size := by rw [I.size]; exact D.dst j o s r.op hd
    simpa [Act.put, Array.getD_eq_getD_getElem?, hlt] using hv
  · have hlw : lwN ops (listed.setIfInBounds j true) s ops.size = lwN ops listed s ops.size := by
      refine lwN_congr fun k hk hkd => ?_
      have : j ≠ k := by rintro rfl; rw [r.op] at hkd; exact hd hkd
      exact getD_set_ne false this
    rw [hlw] at hu
    have hold := (I.slots s u hu).ext x
    cases hdst : o.dst with
    | none => exact hold
    | some t =>
      have hne : t ≠ s := by rintro rfl; exact hd hdst
      simpa [Act.put, Array.getD_eq_getD_getElem?, Array.getElem?_setIfInBounds_ne hne] using hold

/-- The heap at the stage, where a box that is looked at stands. -/
theorem Inv.looked (D : Dr P cx cf base mask m ops E Hs ws μs) (I : Inv cx base mask m ops E Hs ws μs listed a w μ q) (r : Rdy ops listed j o) (hne : isEff o.op = false) (hw : wantT ops mask (E j) o.guard = some true)
    {b : Nat} (hb : looksBox cx mask (E j) (Hs j) o.op = some b) {p : Nat} (hp : j ≤ p) (hpn : p ≤ ops.size) (hlt : b < (Hs p).size) (hpj : p = j ∨ p = j + 1) :
    (PH Hs ops.size q).get b = (Hs p).get b := by
  have hbn : b < (Hs ops.size).size := Nat.lt_of_lt_of_le hlt (size_mono D.mono hpn (Nat.le_refl _))
  rw [D.phGet (I.qle _) hbn]
  have hcr : crN Hs b ops.size ≤ p := (crN_iff D.mono hbn hpn).1 hlt
  have hlook : LookW cx mask ops E Hs j b := ⟨o, r.op, hne, hw, hb⟩
  have hnej : ¬ EffW mask ops E j := by
    rintro ⟨o', ho', he, _⟩
    rw [r.op] at ho'; simp only [Option.some.injEq] at ho'; subst ho'
    rw [hne] at he; simp at he
  rcases Nat.le_total (max (q b) (crN Hs b ops.size)) p with hle | hge
  · refine (get_between D.mono hle fun k hk1 hk2 => ?_).symm
    have hbk : b < (Hs k).size := (crN_iff D.mono hbn (by omega)).2 (by omega)
    by_cases hek : EffW mask ops E k
    · have hkj : k < j := by
        rcases Nat.lt_trichotomy k j with h | h | h
        · exact h
        · subst h; exact absurd hek hnej
        · omega
      cases hsv : sameVer (Hs k) (Hs (k + 1)) b with
      | true => exact D.ver (by omega) hbk hsv
      | false =>
        rcases D.tr.behind j k b hlook hek hkj with h | h
        · rw [hsv] at h; simp at h
        · have := (I.effs k b hek hbk hsv).1 (r.before k h)
          omega
    · exact D.still (by omega) hbk hek
  · refine get_between D.mono hge fun k hk1 hk2 => ?_
    have hqk : k < q b := by omega
    have hkn : k < ops.size := by have := I.qle b; omega
    have hbk : b < (Hs k).size := (crN_iff D.mono hbn (by omega)).2 (by omega)
    by_cases hek : EffW mask ops E k
    · have hkj : j < k := by
        rcases Nat.lt_trichotomy k j with h | h | h
        · omega
        · subst h; exact absurd hek hnej
        · exact h
      cases hsv : sameVer (Hs k) (Hs (k + 1)) b with
      | true => exact D.ver hkn hbk hsv
      | false =>
        rcases D.tr.ahead j k b hlook hek hkj with h | h
        · rw [hsv] at h; simp at h
        · have h1 := (I.effs k b hek hbk hsv).2 hqk
          rw [r.behind k h] at h1; simp at h1
    · exact D.still hkn hbk hek

theorem Inv.want (D : Dr P cx cf base mask m ops E Hs ws μs) (I : Inv cx base mask m ops E Hs ws μs listed a w μ q) (r : Rdy ops listed j o) {b : Bool} (hw : wantT ops mask (E j) o.guard = some b) :
    Region.wanted o (yielded ops a.tmps) = b :=
  want_sound (I.relE D r) (fun k p s hk hs => by rw [I.size]; exact D.dst k p s hk hs) (by rw [wantT_rEnv]; exact hw)

/-- A box that op j made, in the numbers. -/
theorem Dr.made (D : Dr P cx cf base mask m ops E Hs ws μs) (hj : j < ops.size) {b : Nat} (hb : b < (Hs ops.size).size) : crN Hs b ops.size = j + 1 ↔ ((Hs j).size ≤ b ∧ b < (Hs (j + 1)).size) := by
  have h1 := crN_iff D.mono hb (show j ≤ ops.size by omega)
  have h2 := crN_iff D.mono hb (show j + 1 ≤ ops.size by omega)
  constructor
  · intro h
    refine ⟨?_, h2.2 (by omega)⟩
    rcases Nat.lt_or_ge b (Hs j).size with k | k
    · have := h1.1 k; omega
    · exact k
  · rintro ⟨k1, k2⟩
    have := h2.1 k2
    have : ¬ crN Hs b ops.size ≤ j := fun k => by have := h1.2 k; omega
    omega

theorem Dr.cr0 (D : Dr P cx cf base mask m ops E Hs ws μs) {b : Nat} (hb : b < (Hs ops.size).size) (h0 : (Hs 0).size ≤ b) : 0 < crN Hs b ops.size := by
  rcases Nat.eq_zero_or_pos (crN Hs b ops.size) with h | h
  · have := (crN_iff D.mono hb (Nat.zero_le _)).2 (by omega); omega
  · exact h

/-- The list's word on a box that op j did not make stays. -/
theorem Dr.keepL (D : Dr P cx cf base mask m ops E Hs ws μs) (hj : j < ops.size) {b : Nat} (hb : b < (Hs ops.size).size) (h0 : (Hs 0).size ≤ b) (hn : ¬ ((Hs j).size ≤ b ∧ b < (Hs (j + 1)).size)) :
    (listed.setIfInBounds j true).getD (crN Hs b ops.size - 1) false = listed.getD (crN Hs b ops.size - 1) false := by
  refine getD_set_ne false fun h => hn ?_
  have := D.cr0 hb h0
  exact (D.made hj hb).1 (by omega)

/-- The domain where no box is made. -/
theorem Inv.domSame (D : Dr P cx cf base mask m ops E Hs ws μs) (I : Inv cx base mask m ops E Hs ws μs listed a w μ q) (r : Rdy ops listed j o) (hH : (Hs (j + 1)).size = (Hs j).size) {μ' : Mu} (hd : ∀ b, μ' b ≠ none ↔ μ b ≠ none) :
    ∀ b, μ' b ≠ none ↔ (μs b ≠ none ∨ ((Hs 0).size ≤ b ∧ b < (Hs ops.size).size ∧ (listed.setIfInBounds j true).getD (crN Hs b ops.size - 1) false = true)) := by
  intro b
  rw [hd, I.dom]
  refine or_congr Iff.rfl ⟨fun ⟨h1, h2, h3⟩ => ⟨h1, h2, ?_⟩, fun ⟨h1, h2, h3⟩ => ⟨h1, h2, ?_⟩⟩
  · rw [D.keepL r.lt h2 h1 (by rw [hH]; omega)]; exact h3
  · rw [D.keepL r.lt h2 h1 (by rw [hH]; omega)] at h3; exact h3

theorem not_eff_of (r : Rdy ops listed j o) (h : isEff o.op = false ∨ wantT ops mask (E j) o.guard = some false) : ¬ EffW mask ops E j := by
  rintro ⟨o', ho', he, hw⟩
  rw [r.op] at ho'; simp only [Option.some.injEq] at ho'; subst ho'
  rcases h with h | h
  · rw [h] at he; simp at he
  · rw [h] at hw; simp at hw

theorem Inv.effsSame (I : Inv cx base mask m ops E Hs ws μs listed a w μ q) (hne : ¬ EffW mask ops E j) :
    ∀ k b, EffW mask ops E k → b < (Hs k).size → sameVer (Hs k) (Hs (k + 1)) b = false → ((listed.setIfInBounds j true).getD k false = true ↔ k < q b) := by
  intro k b hk hb hv
  have : j ≠ k := by rintro rfl; exact hne hk
  rw [getD_set_ne false this]
  exact I.effs k b hk hb hv

variable {Q : Exit → Act → World → Prop}

/-- An operation that is not wanted. -/
theorem Inv.skip (D : Dr P cx cf base mask m ops E Hs ws μs) (I : Inv cx base mask m ops E Hs ws μs listed a w μ q) (r : Rdy ops listed j o) (hw : wantT ops mask (E j) o.guard = some false)
    (hset : (E j).dst mask o.dst .undef = some (E (j + 1))) (hH : Hs (j + 1) = Hs j) : Inv cx base mask m ops E Hs ws μs (listed.setIfInBounds j true) (a.put o.dst Go.undef) w μ q :=
  ⟨I.cl.set r, by rw [Act.put_size]; exact I.size, by rw [Act.put_defs]; exact I.defs, I.qle, I.effsSame (not_eff_of r (.inr hw)), I.st,
    I.slots' D r (Ext.refl _ _) .undef hset, I.domSame D r (by rw [hH]) fun _ => Iff.rfl, I.ext⟩

/-- An operation that changes no box. -/
theorem Inv.quiet (D : Dr P cx cf base mask m ops E Hs ws μs) (I : Inv cx base mask m ops E Hs ws μs listed a w μ q) (r : Rdy ops listed j o) (hw : wantT ops mask (E j) o.guard = some true) (hne : isEff o.op = false) {v : T}
    (hx : Exec cx cf mask (E j) (Hs j) o.op v (Hs (j + 1))) (hset : (E j).dst mask o.dst v = some (E (j + 1))) :
    Ran P (fun c w' => ∃ μ', Inv cx base mask m ops E Hs ws μs (listed.setIfInBounds j true) (a.put o.dst c) w' μ' q) ((execOp a.eval o).run P w) := by
  have hnot := not_eff_of (mask := mask) (E := E) r (.inl hne)
  have hop := exec_val hne hx
  have hcg : ∀ x ∈ o.op.operands, opnd cx mask (E j) x = opnd cx mask (rEnv mask (E j) (o.looksAt ops)) x := fun x hx => opnd_rEnv hx
  rw [opH_congr hcg] at hop
  have hlk : ∀ b, looksBox cx mask (rEnv mask (E j) (o.looksAt ops)) (Hs j) o.op = some b → b < (Hs j).size → (PH Hs ops.size q).get b = (Hs j).get b := by
    intro b hb hlt
    rw [← looksBox_congr hcg] at hb
    exact I.looked D r hne hw hb (Nat.le_refl _) (Nat.le_of_lt r.lt) hlt (.inl rfl)
  rcases opH_heap hne hlk hop with ⟨hH, hop2⟩ | ⟨f, x, hf, hb, hv, hH, hop2⟩
  · -- nothing is made
    refine ((opH_val D.tys I.st (I.relE D r) hop2).ran).mono fun c w' hc => ?_
    obtain ⟨μ', k1, k2, k3, k4⟩ := hc
    refine ⟨μ', I.cl.set r, by rw [Act.put_size]; exact I.size, by rw [Act.put_defs]; exact I.defs, I.qle, I.effsSame hnot, k2, I.slots' D r k3.ext k1 hset, ?_, I.ext.trans k3⟩
    refine I.domSame D r (by rw [hH]) fun b => ⟨fun hb => ?_, fun hb => ?_⟩
    · rcases k4.2.1 b hb with h | h
      · exact h
      · omega
    · obtain ⟨L, hL⟩ := Option.ne_none_iff_exists'.1 hb
      obtain ⟨L', hL', _⟩ := k3.ext.mu b L hL
      rw [hL']; simp
  · -- a box is made
    subst hv
    have hN : (PH Hs ops.size q).size = (Hs ops.size).size := rfl
    have hsz1 : (Hs (j + 1)).size = (Hs j).size + 1 := by rw [hH]; rfl
    have hbjN : (Hs j).size < (Hs ops.size).size := by
      have := size_mono D.mono (show j + 1 ≤ ops.size from r.lt) (Nat.le_refl _); omega
    have h0j : (Hs 0).size ≤ (Hs j).size := size_mono D.mono (Nat.zero_le _) (Nat.le_of_lt r.lt)
    have hcrj : crN Hs (Hs j).size ops.size = j + 1 := (D.made r.lt hbjN).2 ⟨Nat.le_refl _, by omega⟩
    have hμbj : μ (Hs j).size = none := by
      cases hm : μ (Hs j).size with
      | none => rfl
      | some L =>
        exfalso
        rcases (I.dom (Hs j).size).1 (by rw [hm]; simp) with h | ⟨_, _, h⟩
        · have := D.lt0 h; omega
        · rw [hcrj] at h; simp only [Nat.add_sub_cancel] at h; rw [r.not] at h; simp at h
    have hgetx : (Hs (j + 1)).get (Hs j).size = some x := by rw [hH]; exact H.get_cons_same (D.wf j (Nat.le_of_lt r.lt)) x
    have hphx : (PH Hs ops.size q).get (Hs j).size = some x := by
      rw [← looksBox_congr hcg] at hb
      rw [I.looked D r hne hw hb (show j ≤ j + 1 by omega) r.lt (by omega) (.inr rfl)]
      exact hgetx
    refine ((opH_val D.tys I.st (I.relE D r) hop2).ran).mono fun c w' hc => ?_
    obtain ⟨μ', k1, k2, k3, k4⟩ := hc
    rw [hN] at k1 k4
    have hcons : ((PH Hs ops.size q).cons x).size = (Hs ops.size).size + 1 := rfl
    rw [hcons] at k4
    have hμN : μ' (Hs ops.size).size ≠ none := k4.2.2 _ (Nat.le_refl _) (by omega)
    have hltN : ∀ b L, μ b = some L → b < (Hs ops.size).size := fun b L hb => I.st.get_lt hb
    have hdom' : ∀ b, b ≠ (Hs ops.size).size → (μ' b ≠ none ↔ μ b ≠ none) := by
      intro b hbN
      constructor
      · intro hb
        rcases k4.2.1 b hb with h | h
        · exact h
        · omega
      · intro hb
        obtain ⟨L, hL⟩ := Option.ne_none_iff_exists'.1 hb
        obtain ⟨L', hL', _⟩ := k3.ext.mu b L hL
        rw [hL']; simp
    have hμ'bj : μ' (Hs j).size = none := by
      cases hm : μ' (Hs j).size with
      | none => rfl
      | some L => exact absurd hμbj ((hdom' _ (by omega)).1 (by rw [hm]; simp))
    obtain ⟨LN, hLN⟩ := Option.ne_none_iff_exists'.1 hμN
    let μ2 : Mu := ⟨fun b => if b = (Hs j).size then μ' (Hs ops.size).size else if b = (Hs ops.size).size then none else μ' b, μ'.res⟩
    have e1 : μ2 (Hs j).size = μ' (Hs ops.size).size := by simp [μ2]
    have e2 : μ2 (Hs ops.size).size = none := by
      have : (Hs ops.size).size ≠ (Hs j).size := by omega
      simp [μ2, this]
    have e3 : ∀ b, b ≠ (Hs j).size → b ≠ (Hs ops.size).size → μ2 b = μ' b := fun b h1 h2 => by simp [μ2, h1, h2]
    have hin : ∀ i, InMu μ2 i → InMu μ' i := by
      rintro i (⟨b, L, hb, hl⟩ | hr)
      · by_cases h1 : b = (Hs j).size
        · subst h1; rw [e1] at hb; exact .inl ⟨_, L, hb, hl⟩
        · by_cases h2 : b = (Hs ops.size).size
          · subst h2; rw [e2] at hb; simp at hb
          · rw [e3 b h1 h2] at hb; exact .inl ⟨b, L, hb, hl⟩
      · exact .inr hr
    have hm2 : ∀ b L, b < (Hs ops.size).size → μ' b = some L → μ2 b = some L := by
      intro b L hb hL
      have h1 : b ≠ (Hs j).size := by rintro rfl; rw [hμ'bj] at hL; simp at hL
      rw [e3 b h1 (by omega)]; exact hL
    have hext : Ext w.heap μ w'.heap μ2 := by
      refine ⟨k3.ext.size, fun i hi hn => ?_, fun b L hb => ?_, k3.ext.res, k3.ext.kept⟩
      · obtain ⟨q1, q2⟩ := k3.ext.old i hi hn
        exact ⟨q1, fun h => q2 (hin i h)⟩
      · obtain ⟨L', hL', hor⟩ := k3.ext.mu b L hb
        exact ⟨L', hm2 b L' (hltN b L hb) hL', hor⟩
    have hres : RelV w'.heap μ2 (f (Hs j).size) c := by
      rcases hf with hf | ⟨l, hf⟩ | hf | hf
      · rw [hf] at k1 ⊢
        cases k1 with | ptr _ _ _ _ L ad hb he ha => exact .ptr _ _ _ _ L ad (by rw [e1]; exact hb) he ha
      · rw [hf] at k1 ⊢
        cases k1 with | arr _ _ _ _ _ L ad cp hb he hl h => exact .arr _ _ _ _ _ L ad cp (by rw [e1]; exact hb) he hl h
      · rw [hf] at k1 ⊢
        cases k1 with | iter _ L ad hb h => exact .iter _ L ad (by rw [e1]; exact hb) h
      · rw [hf] at k1 ⊢
        cases k1 with | map _ L i hb h => exact .map _ L i (by rw [e1]; exact hb) h
    have hst : St cx base w'.heap μ2 (PH Hs ops.size q) := by
      refine ⟨PH_wf _ _ _, k2.fit, fun b L hb => ?_, fun b b' L L' hb hb' hl => ?_, fun b L hb => ?_, fun b L hb => ?_, k2.resLt, fun g cs hg => ?_⟩
      · by_cases h1 : b = (Hs j).size
        · subst h1
          rw [e1] at hb
          obtain ⟨y, hy, hok⟩ := k2.box _ L hb
          have hyx : y = x := by
            have := H.get_cons_same (PH_wf Hs ops.size q) x
            rw [hN, hy] at this
            simpa using this
          subst hyx
          refine ⟨y, hphx, hok.conv (n := (Hs ops.size).size) (fun u hu => ?_) hm2 hin⟩
          exact (D.low2 (j + 1) r.lt _ y (.inr h0j) hgetx u hu).mono (by omega)
        · by_cases h2 : b = (Hs ops.size).size
          · subst h2; rw [e2] at hb; simp at hb
          · rw [e3 b h1 h2] at hb
            obtain ⟨y, hy, hok⟩ := k2.box b L hb
            have hbμ : μ b ≠ none := (hdom' b h2).1 (by rw [hb]; simp)
            obtain ⟨L0, hL0⟩ := Option.ne_none_iff_exists'.1 hbμ
            have hlt := hltN b L0 hL0
            rw [H.get_cons_other (by rw [hN]; exact hlt)] at hy
            refine ⟨y, hy, hok.conv (n := (Hs ops.size).size) (fun u hu => ?_) hm2 hin⟩
            obtain ⟨z, hz, hzok⟩ := I.st.box b L0 hL0
            rw [hy] at hz; simp only [Option.some.injEq] at hz; subst hz
            exact hzok.low hltN u hu
      · have back : ∀ b L, μ2 b = some L → (b = (Hs j).size ∧ μ' (Hs ops.size).size = some L) ∨ (b ≠ (Hs j).size ∧ b ≠ (Hs ops.size).size ∧ μ' b = some L) := by
          intro b L hb
          by_cases h1 : b = (Hs j).size
          · subst h1; rw [e1] at hb; exact .inl ⟨rfl, hb⟩
          · by_cases h2 : b = (Hs ops.size).size
            · subst h2; rw [e2] at hb; simp at hb
            · rw [e3 b h1 h2] at hb; exact .inr ⟨h1, h2, hb⟩
        rcases back b L hb with ⟨g1, g2⟩ | ⟨g1, g2, g3⟩ <;> rcases back b' L' hb' with ⟨g1', g2'⟩ | ⟨g1', g2', g3'⟩
        · omega
        · exact absurd (k2.inj _ _ _ _ g2 g3' hl).symm g2'
        · exact absurd (k2.inj _ _ _ _ g3 g2' hl) g2
        · exact k2.inj _ _ _ _ g3 g3' hl
      · by_cases h1 : b = (Hs j).size
        · subst h1; rw [e1] at hb; exact k2.low _ _ hb
        · by_cases h2 : b = (Hs ops.size).size
          · subst h2; rw [e2] at hb; simp at hb
          · rw [e3 b h1 h2] at hb; exact k2.low _ _ hb
      · by_cases h1 : b = (Hs j).size
        · subst h1; rw [e1] at hb; exact k2.apart _ _ hb
        · by_cases h2 : b = (Hs ops.size).size
          · subst h2; rw [e2] at hb; simp at hb
          · rw [e3 b h1 h2] at hb; exact k2.apart _ _ hb
      · exact (I.st.glob g cs hg).ext hext
    refine ⟨μ2, I.cl.set r, by rw [Act.put_size]; exact I.size, by rw [Act.put_defs]; exact I.defs, I.qle, I.effsSame hnot, hst, I.slots' D r hext hres hset, fun b => ?_,
      I.ext.trans ⟨hext, k3.os, k3.tape, k3.output⟩⟩
    by_cases h1 : b = (Hs j).size
    · subst h1
      refine ⟨fun _ => .inr ⟨h0j, hbjN, ?_⟩, fun _ => by rw [e1]; exact hμN⟩
      rw [hcrj]; exact set_same I.cl r
    · by_cases h2 : b = (Hs ops.size).size
      · subst h2
        refine ⟨fun h => absurd e2 h, fun h => ?_⟩
        rcases h with h | ⟨_, h, _⟩
        · have := D.lt0 h; omega
        · omega
      · rw [e3 b h1 h2, hdom' b h2, I.dom]
        refine or_congr Iff.rfl ⟨fun ⟨g1, g2, g3⟩ => ⟨g1, g2, ?_⟩, fun ⟨g1, g2, g3⟩ => ⟨g1, g2, ?_⟩⟩
        · rw [D.keepL r.lt g2 g1 (by rw [hsz1]; omega)]; exact g3
        · rw [D.keepL r.lt g2 g1 (by rw [hsz1]; omega)] at g3; exact g3

/-- An operation that may change boxes. -/
theorem Inv.loud (D : Dr P cx cf base mask m ops E Hs ws μs) (I : Inv cx base mask m ops E Hs ws μs listed a w μ q) (r : Rdy ops listed j o) (hw : wantT ops mask (E j) o.guard = some true) (he : isEff o.op = true)
    (hord : ∀ k ok, ops[k]? = some ok → isEff ok.op = true → (k < j → ordered ops k j = true) ∧ (j < k → ordered ops j k = true)) {v : T}
    (hx : Exec cx cf mask (E j) (Hs j) o.op v (Hs (j + 1))) (hset : (E j).dst mask o.dst v = some (E (j + 1))) :
    Ran P (fun c w' => ∃ μ', Inv cx base mask m ops E Hs ws μs (listed.setIfInBounds j true) (a.put o.dst c) w' μ' (fun _ => j + 1)) ((execOp a.eval o).run P w) := by
  have hej : EffW mask ops E j := ⟨o, r.op, he, hw⟩
  have hbefore : ∀ k, EffW mask ops E k → k < j → listed.getD k false = true := by
    rintro k ⟨ok, hok, hek, _⟩ hlt
    exact r.before k ((hord k ok hok hek).1 hlt)
  have hafter : ∀ k, EffW mask ops E k → j < k → listed.getD k false = false := by
    rintro k ⟨ok, hok, hek, _⟩ hlt
    exact r.behind k ((hord k ok hok hek).2 hlt)
  have hjn := r.lt
  have hsz : (Hs j).size ≤ (Hs (j + 1)).size := D.mono j hjn
  have hszN : (Hs (j + 1)).size ≤ (Hs ops.size).size := size_mono D.mono (show j + 1 ≤ ops.size from hjn) (Nat.le_refl _)
  have h0j : (Hs 0).size ≤ (Hs j).size := size_mono D.mono (Nat.zero_le _) (Nat.le_of_lt hjn)
  have hcont : ∀ b, b < (Hs j).size → (PH Hs ops.size q).get b = (Hs j).get b := by
    intro b hb
    have hbn : b < (Hs ops.size).size := by omega
    rw [D.phGet (I.qle _) hbn]
    have hcr : crN Hs b ops.size ≤ j := (crN_iff D.mono hbn (Nat.le_of_lt hjn)).1 hb
    rcases Nat.le_total (max (q b) (crN Hs b ops.size)) j with hle | hge
    · refine (get_between D.mono hle fun k hk1 hk2 => ?_).symm
      have hbk : b < (Hs k).size := (crN_iff D.mono hbn (by omega)).2 (by omega)
      refine D.same (by omega) hbk fun hek hsv => ?_
      have := (I.effs k b hek hbk hsv).1 (hbefore k hek hk2)
      omega
    · refine get_between D.mono hge fun k hk1 hk2 => ?_
      have hqn := I.qle b
      have hbk : b < (Hs k).size := (crN_iff D.mono hbn (by omega)).2 (by omega)
      refine D.same (by omega) hbk fun hek hsv => ?_
      have hl := (I.effs k b hek hbk hsv).2 (by omega)
      rcases Nat.eq_or_lt_of_le hk1 with h | h
      · subst h; rw [r.not] at hl; simp at hl
      · rw [hafter k hek h] at hl; simp at hl
  have hgap : ∀ b L, μ b = some L → b < (Hs j).size ∨ (Hs (j + 1)).size ≤ b := by
    intro b L hb
    rcases Nat.lt_or_ge b (Hs j).size with h | h
    · exact .inl h
    · right
      rcases Nat.lt_or_ge b (Hs (j + 1)).size with h2 | h2
      · exfalso
        have hbn : b < (Hs ops.size).size := by omega
        rcases (I.dom b).1 (by rw [hb]; simp) with g | ⟨_, _, g⟩
        · have := D.lt0 g; omega
        · rw [(D.made hjn hbn).2 ⟨h, h2⟩] at g
          simp only [Nat.add_sub_cancel] at g
          rw [r.not] at g; simp at g
      · exact h2
  have hdomb : ∀ b, μ b ≠ none → μs b ≠ none ∨ (Hs 0).size ≤ b := fun b hb => by
    rcases (I.dom b).1 hb with g | ⟨g, _⟩
    · exact .inl g
    · exact .inr g
  -- the later boxes are kept apart
  let μc : Mu := ⟨fun b => if b < (Hs j).size then μ b else none, fun i => μ.res i ∨ ∃ b L, (Hs j).size ≤ b ∧ μ b = some L ∧ L.blk = i⟩
  have c1 : ∀ b, b < (Hs j).size → μc b = μ b := fun b hb => by simp [μc, hb]
  have c2 : ∀ b L, μc b = some L → b < (Hs j).size ∧ μ b = some L := by
    intro b L hb
    by_cases h : b < (Hs j).size
    · rw [c1 b h] at hb; exact ⟨h, hb⟩
    · simp [μc, h] at hb
  have c3 : ∀ i, InMu μc i → InMu μ i := by
    rintro i (⟨b, L, hb, hl⟩ | hr | ⟨b, L, hb, hL, hl⟩)
    · exact .inl ⟨b, L, (c2 b L hb).2, hl⟩
    · exact .inr hr
    · exact .inl ⟨b, L, hL, hl⟩
  have c4 : ∀ b L, b < (Hs j).size → μ b = some L → μc b = some L := fun b L hb hL => by rw [c1 b hb]; exact hL
  have sc : St cx base w.heap μc (Hs j) := by
    refine ⟨D.wf j (Nat.le_of_lt hjn), I.st.fit, fun b L hb => ?_, fun b b' L L' hb hb' hl => ?_, fun b L hb => ?_, fun b L hb => ?_, fun i hr => ?_, fun g cs hg => ?_⟩
    · obtain ⟨h1, h2⟩ := c2 b L hb
      obtain ⟨x, hx, hok⟩ := I.st.box b L h2
      rw [hcont b h1] at hx
      exact ⟨x, hx, hok.conv (D.low2 j (Nat.le_of_lt hjn) b x (hdomb b (by rw [h2]; simp)) hx) c4 c3⟩
    · exact I.st.inj b b' L L' (c2 b L hb).2 (c2 b' L' hb').2 hl
    · exact I.st.low b L (c2 b L hb).2
    · rintro (hr | ⟨b', L', hb', hL', hl⟩)
      · exact I.st.apart b L (c2 b L hb).2 hr
      · have := I.st.inj b' b L' L hL' (c2 b L hb).2 hl
        have := (c2 b L hb).1
        omega
    · rcases hr with hr | ⟨b, L, _, hL, hl⟩
      · exact I.st.resLt i hr
      · rw [← hl]; exact I.st.lt hL
    · have hgl := I.st.glob g cs hg
      refine hgl.conv (n := 0) ?_ (fun b L hb => by omega) c3
      obtain ⟨_, _, _, _, _, _, _, _, _, hsh, _⟩ := hgl.inv_tptr
      exact .tptr _ fun u hu => (hsh u hu).2.low 0
  have rc : RelE w.heap μc mask (rEnv mask (E j) (o.looksAt ops)) a.tmps := by
    intro s u hu
    refine (I.relE D r s u hu).conv (n := (Hs j).size) ?_ c4 c3
    rw [rEnv_get] at hu
    split at hu
    · exact D.low1 j (Nat.le_of_lt hjn) s u hu
    · simp at hu
  have hx' := hx.congr (e' := rEnv mask (E j) (o.looksAt ops)) fun x hx => opnd_rEnv hx
  refine (exec_ran D.tys D.ck sc rc hx').mono fun c w' hc => ?_
  obtain ⟨⟨μ', k1, k2, k3, k4⟩, _⟩ := hc
  let μ2 : Mu := ⟨fun b => if b < (Hs (j + 1)).size then μ' b else μ b, μ.res⟩
  have d1 : ∀ b, b < (Hs (j + 1)).size → μ2 b = μ' b := fun b hb => by simp [μ2, hb]
  have d2 : ∀ b, (Hs (j + 1)).size ≤ b → μ2 b = μ b := fun b hb => by
    have : ¬ b < (Hs (j + 1)).size := by omega
    simp [μ2, this]
  have hres' : μ'.res = μc.res := k3.ext.res
  have hlate : ∀ b L, (Hs (j + 1)).size ≤ b → μ b = some L → μ'.res L.blk := by
    intro b L hb hL
    rw [hres']
    exact .inr ⟨b, L, by omega, hL, rfl⟩
  have d3 : ∀ i, InMu μ2 i → InMu μ' i := by
    rintro i (⟨b, L, hb, hl⟩ | hr)
    · by_cases h : b < (Hs (j + 1)).size
      · rw [d1 b h] at hb; exact .inl ⟨b, L, hb, hl⟩
      · rw [d2 b (by omega)] at hb
        right; rw [← hl]; exact hlate b L (by omega) hb
    · right; rw [hres']; exact .inl hr
  have hlt' : ∀ b L, μ' b = some L → b < (Hs (j + 1)).size := fun b L hb => k2.get_lt hb
  have d4 : ∀ b L, b < (Hs (j + 1)).size → μ' b = some L → μ2 b = some L := fun b L hb hL => by rw [d1 b hb]; exact hL
  have hext : Ext w.heap μ w'.heap μ2 := by
    refine ⟨k3.ext.size, fun i hi hn => ?_, fun b L hb => ?_, rfl, fun i hi hr => k3.ext.kept i hi (.inl hr)⟩
    · obtain ⟨g1, g2⟩ := k3.ext.old i hi fun h => hn (c3 i h)
      exact ⟨g1, fun h => g2 (d3 i h)⟩
    · rcases hgap b L hb with h | h
      · obtain ⟨L', hL', hor⟩ := k3.ext.mu b L (c4 b L h hb)
        exact ⟨L', d4 b L' (by omega) hL', hor⟩
      · exact ⟨L, by rw [d2 b h]; exact hb, .inl rfl⟩
  have hst : St cx base w'.heap μ2 (PH Hs ops.size (fun _ => j + 1)) := by
    have split2 : ∀ b L, μ2 b = some L → (b < (Hs (j + 1)).size ∧ μ' b = some L) ∨ ((Hs (j + 1)).size ≤ b ∧ μ b = some L) := by
      intro b L hb
      by_cases h : b < (Hs (j + 1)).size
      · rw [d1 b h] at hb; exact .inl ⟨h, hb⟩
      · rw [d2 b (by omega)] at hb; exact .inr ⟨by omega, hb⟩
    refine ⟨PH_wf _ _ _, k2.fit, fun b L hb => ?_, fun b b' L L' hb hb' hl => ?_, fun b L hb => ?_, fun b L hb hr => ?_, fun i hr => ?_, fun g cs hg => (I.st.glob g cs hg).ext hext⟩
    · rcases split2 b L hb with ⟨h1, h2⟩ | ⟨h1, h2⟩
      · obtain ⟨x, hx, hok⟩ := k2.box b L h2
        have hbn : b < (Hs ops.size).size := by omega
        have hcr : crN Hs b ops.size ≤ j + 1 := (crN_iff D.mono hbn (show j + 1 ≤ ops.size from hjn)).1 h1
        refine ⟨x, ?_, hok.conv (hok.low hlt') d4 d3⟩
        rw [D.phGet (q := fun _ => j + 1) (show j + 1 ≤ ops.size from hjn) hbn, show max (j + 1) (crN Hs b ops.size) = j + 1 by omega]
        exact hx
      · obtain ⟨x, hx, hok⟩ := I.st.box b L h2
        have hbn : b < (Hs ops.size).size := I.st.get_lt h2
        have hcr : ¬ crN Hs b ops.size ≤ j + 1 := fun h => by
          have := (crN_iff D.mono hbn (show j + 1 ≤ ops.size from hjn)).2 h; omega
        refine ⟨x, ?_, hok.ext hext ?_⟩
        · rw [D.phGet (I.qle _) hbn] at hx
          rw [D.phGet (q := fun _ => j + 1) (show j + 1 ≤ ops.size from hjn) hbn, show max (j + 1) (crN Hs b ops.size) = crN Hs b ops.size by omega]
          rw [← hx]
          refine (get_between D.mono (by omega) fun k hk1 hk2 => ?_).symm
          have hqn := I.qle b
          have hcrn := crN_le Hs b ops.size
          have hbk : b < (Hs k).size := (crN_iff D.mono hbn (by omega)).2 (by omega)
          refine D.same (by omega) hbk fun hek hsv => ?_
          have hl := (I.effs k b hek hbk hsv).2 (by omega)
          rw [hafter k hek (by omega)] at hl; simp at hl
        · exact k3.ext.kept L.blk (I.st.lt h2) (.inr ⟨b, L, by omega, h2, rfl⟩)
    · rcases split2 b L hb with ⟨h1, h2⟩ | ⟨h1, h2⟩ <;> rcases split2 b' L' hb' with ⟨h1', h2'⟩ | ⟨h1', h2'⟩
      · exact k2.inj b b' L L' h2 h2' hl
      · exact absurd (by rw [hl]; exact hlate b' L' h1' h2') (k2.apart b L h2)
      · exact absurd (by rw [← hl]; exact hlate b L h1 h2) (k2.apart b' L' h2')
      · exact I.st.inj b b' L L' h2 h2' hl
    · rcases split2 b L hb with ⟨h1, h2⟩ | ⟨h1, h2⟩
      · exact k2.low b L h2
      · exact I.st.low b L h2
    · rcases split2 b L hb with ⟨h1, h2⟩ | ⟨h1, h2⟩
      · exact k2.apart b L h2 (by rw [hres']; exact .inl hr)
      · exact I.st.apart b L h2 hr
    · exact Nat.lt_of_lt_of_le (I.st.resLt i hr) k3.ext.size
  have hval : RelV w'.heap μ2 v c := k1.conv (k1.low hlt') d4 d3
  refine ⟨μ2, I.cl.set r, by rw [Act.put_size]; exact I.size, by rw [Act.put_defs]; exact I.defs, fun _ => hjn, fun k b hk _ _ => ?_, hst, I.slots' D r hext hval hset, fun b => ?_,
    I.ext.trans ⟨hext, k3.os, k3.tape, k3.output⟩⟩
  · rcases Nat.lt_trichotomy k j with h | h | h
    · rw [getD_set_ne false (by omega), hbefore k hk h]; simp; omega
    · subst h; rw [set_same I.cl r]; simp
    · rw [getD_set_ne false (by omega), hafter k hk h]; simp; omega
  · by_cases h1 : b < (Hs (j + 1)).size
    · rw [d1 b h1]
      have hbn : b < (Hs ops.size).size := by omega
      by_cases h2 : b < (Hs j).size
      · have : μ' b ≠ none ↔ μ b ≠ none := by
          constructor
          · intro hb
            rcases k4.2.1 b hb with g | g
            · rwa [c1 b h2] at g
            · omega
          · intro hb
            obtain ⟨L, hL⟩ := Option.ne_none_iff_exists'.1 hb
            obtain ⟨L', hL', _⟩ := k3.ext.mu b L (c4 b L h2 hL)
            rw [hL']; simp
        rw [this, I.dom]
        refine or_congr Iff.rfl ⟨fun ⟨g1, g2, g3⟩ => ⟨g1, g2, ?_⟩, fun ⟨g1, g2, g3⟩ => ⟨g1, g2, ?_⟩⟩
        · rw [D.keepL hjn g2 g1 (by omega)]; exact g3
        · rw [D.keepL hjn g2 g1 (by omega)] at g3; exact g3
      · refine ⟨fun _ => .inr ⟨by omega, hbn, ?_⟩, fun _ => k4.2.2 b (by omega) h1⟩
        rw [(D.made hjn hbn).2 ⟨by omega, h1⟩]
        exact set_same I.cl r
    · rw [d2 b (by omega), I.dom]
      refine or_congr Iff.rfl ⟨fun ⟨g1, g2, g3⟩ => ⟨g1, g2, ?_⟩, fun ⟨g1, g2, g3⟩ => ⟨g1, g2, ?_⟩⟩
      · rw [D.keepL hjn g2 g1 (by omega)]; exact g3
      · rw [D.keepL hjn g2 g1 (by omega)] at g3; exact g3


theorem store_at {h h' h2 : H} {t : Ty} {b ep i jj : Nat} {v : T} (hh : h.store t (.ptr b ep i jj) v = some h') (hw : h.boxes.length = h.size) (hw2 : h2.boxes.length = h2.size) (hg : h2.get b = h.get b) :
    h'.size = h.size ∧ (∀ c, c ≠ b → h'.get c = h.get c) ∧ sameVer h h' b = false ∧ b < h.size ∧ ∃ h2', h2.store t (.ptr b ep i jj) v = some h2' ∧ h2'.size = h2.size ∧ h2'.boxes.length = h2'.size ∧ h2'.get b = h'.get b ∧ ∀ c, c ≠ b → h2'.get c = h2.get c := by
  have hh : chk (Nat.beq (lenN v.cells) t.size) (bnd (h.get b) fun x => @Box.rec (fun _ => Option H) (fun sz ep' ver exact it elems =>
      chk (Nat.beq ep' ep) (@Bool.rec (fun _ => Option H) (bnd (nthD elems i) fun e => bnd (setIn e jj v.cells) fun e' => bnd (setNth elems i e') fun es =>
        bnd (normNat (Nat.succ ver)) fun ver' => h.put b ⟨sz, ep', ver', exact, false, es⟩) none it)) x) = some h' := hh
  obtain ⟨c1, hh⟩ := chk_eq_some.1 hh
  replace hh := bnd_eq_some.1 hh; obtain ⟨⟨sz, ep', ver, exact', it, elems⟩, c2, hh⟩ := hh
  obtain ⟨c3, hh⟩ := chk_eq_some.1 hh
  cases it with
  | true => simp at hh
  | false =>
    replace hh := bnd_eq_some.1 hh; obtain ⟨e, c4, hh⟩ := hh
    replace hh := bnd_eq_some.1 hh; obtain ⟨e', c5, hh⟩ := hh
    replace hh := bnd_eq_some.1 hh; obtain ⟨es, c6, hh⟩ := hh
    replace hh := bnd_eq_some.1 hh; obtain ⟨ver', c7, hh⟩ := hh
    have hv : ver' = ver + 1 := by rw [normNat_eq] at c7; simpa using c7.symm
    obtain ⟨p1, p2, p3, p4⟩ := put_get hh hw
    have hb2 : b < h2.size := H.get_lt (hg.trans c2)
    have hput : ∃ h2', h2.put b ⟨sz, ep', ver', exact', false, es⟩ = some h2' := ⟨_, H.put_eq_some.2 ⟨hb2, by omega, rfl⟩⟩
    obtain ⟨h2', hput⟩ := hput
    obtain ⟨g1, g2, g3, g4⟩ := put_get hput hw2
    refine ⟨p1, p4, ?_, H.get_lt c2, h2', ?_, g1, g2, by rw [g3, p3], g4⟩
    · unfold sameVer
      rw [c2, p3]
      show Nat.beq ver ver' = false
      rw [hv]
      cases hn : Nat.beq ver (ver + 1) with
      | false => rfl
      | true => have := Nat.eq_of_beq_eq_true hn; omega
    · show chk (Nat.beq (lenN v.cells) t.size) (bnd (h2.get b) fun x => @Box.rec (fun _ => Option H) (fun sz ep' ver exact it elems =>
        chk (Nat.beq ep' ep) (@Bool.rec (fun _ => Option H) (bnd (nthD elems i) fun e => bnd (setIn e jj v.cells) fun e' => bnd (setNth elems i e') fun es =>
          bnd (normNat (Nat.succ ver)) fun ver' => h2.put b ⟨sz, ep', ver', exact, false, es⟩) none it)) x) = some h2'
      rw [hg, c2]
      simp only [c1, c3, c4, c5, c6, c7, chk_true, bnd_some, hput]

/-- What a store of the trace does. -/
theorem Dr.storeW (D : Dr P cx cf base mask m ops E Hs ws μs) {k : Nat} {ok : Oper} (ho : ops[k]? = some ok) (hst : isStore ok.op = true) (hek : EffW mask ops E k) :
    ∃ b, StW cx mask ops E k b ∧ b < (Hs k).size ∧ (Hs (k + 1)).size = (Hs k).size ∧ (∀ c, c ≠ b → (Hs (k + 1)).get c = (Hs k).get c) ∧ sameVer (Hs k) (Hs (k + 1)) b = false ∧
      ∀ h2 : H, h2.boxes.length = h2.size → h2.get b = (Hs k).get b → ∃ h2', opH ok.op cx mask (E k) h2 = some (.val .undef h2') ∧ h2'.size = h2.size ∧ h2'.boxes.length = h2'.size ∧ h2'.get b = (Hs (k + 1)).get b ∧ ∀ c, c ≠ b → h2'.get c = h2.get c := by
  obtain ⟨o', ho', _, hw⟩ := hek
  rw [ho] at ho'; simp only [Option.some.injEq] at ho'; subst ho'
  have hk : k < ops.size := (Array.getElem?_eq_some_iff.1 ho).1
  rcases stepOp_inv (D.tr.step k _ ho) with ⟨hw', _⟩ | ⟨_, v, hx, _⟩
  · rw [hw] at hw'; simp at hw'
  · cases hop : ok.op with
    | store t x y =>
      rw [hop] at hx
      rcases hx with hx | ⟨f, args, hx, _⟩
      · have hx : (bnd (cx.ty t) fun ty => bnd (opnd cx mask (E k) x) fun a => bnd (opnd cx mask (E k) y) fun v => chk v.good (bnd ((Hs k).store ty a v) fun h' => some (Did.val .undef h'))) = some (.val v (Hs (k + 1))) := hx
        replace hx := bnd_eq_some.1 hx; obtain ⟨ty, c1, hx⟩ := hx
        replace hx := bnd_eq_some.1 hx; obtain ⟨pa, c2, hx⟩ := hx
        replace hx := bnd_eq_some.1 hx; obtain ⟨pv, c3, hx⟩ := hx
        obtain ⟨c4, hx⟩ := chk_eq_some.1 hx
        replace hx := bnd_eq_some.1 hx; obtain ⟨h', c5, hx⟩ := hx
        simp only [Option.some.injEq, Did.val.injEq] at hx
        obtain ⟨rfl, rfl⟩ := hx
        cases pa with
        | ptr b ep i jj =>
          have hb : ∀ h2 : H, h2.boxes.length = h2.size → h2.get b = (Hs k).get b → _ := fun h2 hw2 hg => store_at c5 (D.wf k (Nat.le_of_lt hk)) hw2 hg
          obtain ⟨s1, s2, s3, s4, _⟩ := hb (Hs k) (D.wf k (Nat.le_of_lt hk)) rfl
          refine ⟨b, ⟨ok, t, x, y, ho, hop, hw, by rw [c2]; rfl⟩, s4, s1, s2, s3, fun h2 hw2 hg => ?_⟩
          obtain ⟨_, _, _, _, h2', g1, g2⟩ := hb h2 hw2 hg
          refine ⟨h2', ?_, g2⟩
          show (bnd (cx.ty t) fun ty => bnd (opnd cx mask (E k) x) fun a => bnd (opnd cx mask (E k) y) fun v => chk v.good (bnd (h2.store ty a v) fun h' => some (Did.val .undef h'))) = _
          rw [c1, c2, c3]
          simp only [bnd_some, c4, chk_true, g1]
        | _ => simp [H.store] at c5
      · exact absurd hx (nc_other (fun c hq => by simp at hq) f args)
    | _ => rw [hop] at hst; simp [isStore] at hst

/-- A store, wherever the other stores stand. -/
theorem Inv.loudS (D : Dr P cx cf base mask m ops E Hs ws μs) (I : Inv cx base mask m ops E Hs ws μs listed a w μ q) (r : Rdy ops listed j o) (hw : wantT ops mask (E j) o.guard = some true) (hs : isStore o.op = true)
    {v : T} (hx : Exec cx cf mask (E j) (Hs j) o.op v (Hs (j + 1))) (hset : (E j).dst mask o.dst v = some (E (j + 1))) :
    Ran P (fun c w' => ∃ μ' q', Inv cx base mask m ops E Hs ws μs (listed.setIfInBounds j true) (a.put o.dst c) w' μ' q') ((execOp a.eval o).run P w) := by
  have he : isEff o.op = true := by cases hop : o.op <;> rw [hop] at hs <;> simp [isStore] at hs <;> rfl
  have hej : EffW mask ops E j := ⟨o, r.op, he, hw⟩
  have hjn := r.lt
  obtain ⟨b0, hS, hb0, hsz, hoth, hver, hrun⟩ := D.storeW r.op hs hej
  have hb0n : b0 < (Hs ops.size).size := Nat.lt_of_lt_of_le hb0 (size_mono D.mono (Nat.le_of_lt hjn) (Nat.le_refl _))
  -- changes of the box ahead and behind
  have before : ∀ k, EffW mask ops E k → k < j → sameVer (Hs k) (Hs (k + 1)) b0 = false → listed.getD k false = true := by
    intro k hek hlt hsv
    rcases D.tr.both j k b0 hS hek hlt with h | h
    · rw [hsv] at h; simp at h
    · exact r.before k h
  have after : ∀ k, EffW mask ops E k → j < k → sameVer (Hs k) (Hs (k + 1)) b0 = false → listed.getD k false = false := by
    intro k hek hlt hsv
    have hek' := hek
    obtain ⟨ok, hok, hke, _⟩ := hek'
    rcases D.pairs j k o ok r.op hok hlt with ⟨_, h⟩ | h
    · obtain ⟨bk, hSk, _, _, hothk, _⟩ := D.storeW hok (h he hke).2 hek
      have : bk = b0 := by
        rcases Nat.decEq bk b0 with hne | rfl
        · exfalso
          have hg := hothk b0 (Ne.symm hne)
          unfold sameVer at hsv
          rw [hg] at hsv
          cases hc : (Hs k).get b0 with
          | none => rw [hc] at hsv; simp at hsv
          | some x =>
            rw [hc] at hsv
            have hsv : Nat.beq x.ver x.ver = false := hsv
            simp at hsv
        · rfl
      subst this
      rcases D.tr.both k j bk hSk hej hlt with h | h
      · rw [hver] at h; simp at h
      · exact r.behind k h
    · exact r.behind k h
  have hcr : crN Hs b0 ops.size ≤ j := (crN_iff D.mono hb0n (Nat.le_of_lt hjn)).1 hb0
  have hph : (PH Hs ops.size q).get b0 = (Hs j).get b0 := by
    rw [D.phGet (I.qle _) hb0n]
    have hqn := I.qle b0
    rcases Nat.le_total (max (q b0) (crN Hs b0 ops.size)) j with hle | hge
    · refine (get_between D.mono hle fun k hk1 hk2 => ?_).symm
      have hbk : b0 < (Hs k).size := (crN_iff D.mono hb0n (by omega)).2 (by omega)
      refine D.same (by omega) hbk fun hek hsv => ?_
      have := (I.effs k b0 hek hbk hsv).1 (before k hek hk2 hsv)
      omega
    · refine get_between D.mono hge fun k hk1 hk2 => ?_
      have hbk : b0 < (Hs k).size := (crN_iff D.mono hb0n (by omega)).2 (by omega)
      refine D.same (by omega) hbk fun hek hsv => ?_
      have hl := (I.effs k b0 hek hbk hsv).2 (by omega)
      rcases Nat.eq_or_lt_of_le hk1 with h | h
      · subst h; rw [r.not] at hl; simp at hl
      · rw [after k hek h hsv] at hl; simp at hl
  obtain ⟨h2', hop2, g1, g2, g3, g4⟩ := hrun (PH Hs ops.size q) (PH_wf _ _ _) hph
  have hv : v = .undef := by
    obtain ⟨hj', hop1, _⟩ := hrun (Hs j) (D.wf j (Nat.le_of_lt hjn)) rfl
    rcases hx with hx | ⟨f, args, hx, _⟩
    · rw [hop1] at hx; simp only [Option.some.injEq, Did.val.injEq] at hx; exact hx.1.symm
    · rw [hop1] at hx; simp at hx
  subst hv
  have hcg : ∀ x ∈ o.op.operands, opnd cx mask (E j) x = opnd cx mask (rEnv mask (E j) (o.looksAt ops)) x := fun x hx => opnd_rEnv hx
  rw [opH_congr hcg] at hop2
  refine ((opH_val D.tys I.st (I.relE D r) hop2).ran).mono fun c w' hc => ?_
  obtain ⟨μ', k1, k2, k3, k4⟩ := hc
  refine ⟨μ', fun b => if b = b0 then j + 1 else q b, I.cl.set r, by rw [Act.put_size]; exact I.size, by rw [Act.put_defs]; exact I.defs, fun b => ?_, fun k b hk hbk hsv => ?_,
    k2.congr (PH_wf _ _ _) fun b L hb => ?_, I.slots' D r k3.ext k1 hset, I.domSame D r hsz fun b => ⟨fun hb => ?_, fun hb => ?_⟩, I.ext.trans k3⟩
  · show (if b = b0 then j + 1 else q b) ≤ ops.size
    have := I.qle b
    split <;> omega
  · show _ ↔ k < (if b = b0 then j + 1 else q b)
    by_cases hbb : b = b0
    · subst hbb
      rw [if_pos rfl]
      rcases Nat.lt_trichotomy k j with h | h | h
      · rw [getD_set_ne false (by omega), before k hk h hsv]; simp; omega
      · subst h; rw [set_same I.cl r]; simp
      · rw [getD_set_ne false (by omega), after k hk h hsv]; simp; omega
    · rw [if_neg hbb]
      have hkj : j ≠ k := by
        rintro rfl
        have hg := hoth b hbb
        unfold sameVer at hsv
        rw [hg] at hsv
        cases hc : (Hs j).get b with
        | none => rw [hc] at hsv; simp at hsv
        | some x =>
          rw [hc] at hsv
          have hsv : Nat.beq x.ver x.ver = false := hsv
          simp at hsv
      rw [getD_set_ne false hkj]
      exact I.effs k b hk hbk hsv
  · have hbn : b < (Hs ops.size).size := by
      have := k2.get_lt hb
      rw [g1] at this; exact this
    have hq' : (if b = b0 then j + 1 else q b) ≤ ops.size := by have := I.qle b; split <;> omega
    rw [D.phGet (q := fun b => if b = b0 then j + 1 else q b) hq' hbn]
    by_cases hbb : b = b0
    · subst hbb
      rw [if_pos rfl, g3, show max (j + 1) (crN Hs b ops.size) = j + 1 by omega]
    · rw [if_neg hbb, g4 b hbb, D.phGet (I.qle _) hbn]
  · rcases k4.2.1 b hb with h | h
    · exact h
    · rw [g1] at h; omega
  · obtain ⟨L, hL⟩ := Option.ne_none_iff_exists'.1 hb
    obtain ⟨L', hL', _⟩ := k3.ext.mu b L hL
    rw [hL']; simp

theorem Inv.step (D : Dr P cx cf base mask m ops E Hs ws μs) (I : Inv cx base mask m ops E Hs ws μs listed a w μ q) (hj : j ∈ Region.ready .any ops listed) :
    wpOp P ops Q j (fun a' w' => ∃ μ' q', Inv cx base mask m ops E Hs ws μs (listed.setIfInBounds j true) a' w' μ' q') a w := by
  obtain ⟨o, r⟩ := rdy I.cl hj
  unfold wpOp
  simp only [r.op]
  rcases stepOp_inv (D.tr.step j o r.op) with ⟨hw, hset, hH⟩ | ⟨hw, v, hx, hset⟩
  · simp only [I.want D r hw, Bool.false_eq_true, if_false]
    exact ⟨μ, q, I.skip D r hw hset hH⟩
  · simp only [I.want D r hw, if_true]
    left
    cases he : isEff o.op with
    | false => exact Ran.wp (I.quiet D r hw he hx hset) fun c w' hc => by obtain ⟨μ', h⟩ := hc; exact ⟨μ', q, h⟩
    | true =>
      cases hs : isStore o.op with
      | true => exact Ran.wp (I.loudS D r hw hs hx hset) fun c w' hc => hc
      | false =>
        refine Ran.wp (I.loud D r hw he (fun k ok hok hke => ⟨fun hlt => ?_, fun hlt => ?_⟩) hx hset) fun c w' hc => by obtain ⟨μ', h⟩ := hc; exact ⟨μ', _, h⟩
        · rcases D.pairs k j ok o hok r.op hlt with ⟨_, h⟩ | h
          · have := (h hke he).2; rw [hs] at this; simp at this
          · exact h
        · rcases D.pairs j k o ok r.op hok hlt with ⟨_, h⟩ | h
          · have := (h he hke).1; rw [hs] at this; simp at this
          · exact h

/-! ### the whole -/

def unl (listed : Array Bool) : Nat := (listed.toList.filter fun b => !b).length

theorem filter_set : ∀ (l : List Bool) (j : Nat), l[j]? = some false → ((l.set j true).filter fun b => !b).length + 1 = (l.filter fun b => !b).length := by
  intro l
  induction l with
  | nil => intro j h; simp at h
  | cons x l ih =>
    intro j h
    cases j with
    | zero => simp at h; subst h; simp
    | succ j =>
      simp at h
      have := ih j h
      cases x <;> simp [List.set_cons_succ] <;> omega

theorem unl_set (h : listed.getD j true = false) : unl (listed.setIfInBounds j true) + 1 = unl listed := by
  have hlt : j < listed.size := by
    rcases Nat.lt_or_ge j listed.size with h' | h'
    · exact h'
    · simp [Array.getElem?_eq_none h'] at h
  unfold unl
  rw [Array.toList_setIfInBounds]
  refine filter_set _ _ ?_
  simp [hlt] at h
  simp [hlt, h]

theorem all_listed (D : Dr P cx cf base mask m ops E Hs ws μs) (c : Cl ops listed) (hr : Region.ready .any ops listed = []) : ∀ k, k < ops.size → listed.getD k false = true := by
  intro k
  induction k using Nat.strongRecOn with
  | _ k ih =>
    intro hk
    cases hb : listed.getD k false with
    | true => rfl
    | false =>
      have hko : ops[k]? = some ops[k] := by simp [hk]
      have : k ∈ Region.ready .any ops listed := by
        refine mem_ready.2 ⟨?_, ops[k], hko, fun e he hbd => ?_⟩
        · have : k < listed.size := by rw [c.size]; exact hk
          simp [this] at hb ⊢; exact hb
        · have hlt := D.back k _ hko e he hbd
          exact ih e.on hlt (by omega)
      rw [hr] at this
      simp at this

theorem Inv.final (D : Dr P cx cf base mask m ops E Hs ws μs) (I : Inv cx base mask m ops E Hs ws μs listed a w μ q) (hall : ∀ k, k < ops.size → listed.getD k false = true) :
    St cx base w.heap μ (Hs ops.size) ∧ RelE w.heap μ mask (E ops.size) a.tmps ∧ Dom μs μ (Hs 0).size (Hs ops.size).size := by
  refine ⟨I.st.congr (D.wf _ (Nat.le_refl _)) fun b L hb => ?_, fun s v hv => I.slots s v ?_, ?_⟩
  · have hbn := I.lt D hb
    rw [D.phGet (I.qle _) hbn]
    have hcr := crN_le Hs b ops.size
    have := I.qle b
    refine get_between D.mono (by omega) fun k hk1 hk2 => ?_
    have hbk : b < (Hs k).size := (crN_iff D.mono hbn (by omega)).2 (by omega)
    refine D.same hk2 hbk fun hek hsv => ?_
    have := (I.effs k b hek hbk hsv).1 (hall k hk2)
    omega
  · -- no writer behind the last
    have key : ∀ d, lwN ops listed s ops.size + d ≤ ops.size → (E (lwN ops listed s ops.size + d)).get mask s = (E (lwN ops listed s ops.size)).get mask s := by
      intro d
      induction d with
      | zero => intro _; rfl
      | succ d ih =>
        intro hd
        have hk : lwN ops listed s ops.size + d < ops.size := by omega
        have hko : ops[lwN ops listed s ops.size + d]? = some ops[lwN ops listed s ops.size + d] := by simp [hk]
        rw [← ih (by omega)]
        have hnot : ops[lwN ops listed s ops.size + d].dst ≠ some s := by
          intro hd'
          have := lwN_ge (n := ops.size) hk (hall _ hk) (by rw [hko]; exact hd')
          omega
        have hset : ∀ v e', (E (lwN ops listed s ops.size + d)).dst mask ops[lwN ops listed s ops.size + d].dst v = some e' → e'.get mask s = (E (lwN ops listed s ops.size + d)).get mask s := by
          intro v e' hh
          cases hdst : ops[lwN ops listed s ops.size + d].dst with
          | none => rw [hdst] at hh; have hh : some _ = some e' := hh; simp only [Option.some.injEq] at hh; rw [hh]
          | some t =>
            rw [hdst] at hh hnot
            have hne : s ≠ t := fun e => hnot (by rw [e])
            rw [Env.get_set (show Env.set mask _ t v = some e' from hh) s, if_neg hne]
        rcases stepOp_inv (D.tr.step _ _ hko) with ⟨_, hh, _⟩ | ⟨_, v, _, hh⟩
        · exact hset _ _ hh
        · exact hset _ _ hh
    have hle := lwN_le (ops := ops) (listed := listed) (s := s) ops.size
    have := key (ops.size - lwN ops listed s ops.size) (by omega)
    rw [show lwN ops listed s ops.size + (ops.size - lwN ops listed s ops.size) = ops.size by omega] at this
    rw [← this]; exact hv
  · refine ⟨size_mono D.mono (Nat.zero_le _) (Nat.le_refl _), fun b hb => ?_, fun b h1 h2 => ?_⟩
    · rcases (I.dom b).1 hb with h | ⟨h1, h2, _⟩
      · exact .inl h
      · exact .inr ⟨h1, h2⟩
    · refine (I.dom b).2 (.inr ⟨h1, h2, hall _ ?_⟩)
      have := D.cr0 h2 h1
      have := crN_le Hs b ops.size
      omega

theorem any_sound (D : Dr P cx cf base mask m ops E Hs ws μs)
    (hQ : ∀ a w μ, St cx base w.heap μ (Hs ops.size) → RelE w.heap μ mask (E ops.size) a.tmps → Dom μs μ (Hs 0).size (Hs ops.size).size → ExtW ws μs w μ → a.tmps.size = m → a.defers = [] → Q .normal a w) :
    ∀ (fuel : Nat) (listed : Array Bool) (a : Act) (w : World), unl listed ≤ fuel → (∃ μ q, Inv cx base mask m ops E Hs ws μs listed a w μ q) → wpAny P .any ops Q fuel listed a w := by
  have fin : ∀ (listed : Array Bool) (a : Act) (w : World), (∃ μ q, Inv cx base mask m ops E Hs ws μs listed a w μ q) → Region.ready .any ops listed = [] → Q .normal a w := by
    rintro listed a w ⟨μ, q, I⟩ hr
    obtain ⟨h1, h2, h3⟩ := I.final D (all_listed D I.cl hr)
    exact hQ a w μ h1 h2 h3 I.ext I.size I.defs
  intro fuel
  induction fuel with
  | zero =>
    intro listed a w hu hI
    have hr : Region.ready .any ops listed = [] := by
      cases hr : Region.ready .any ops listed with
      | nil => rfl
      | cons i rs =>
        have hi : i ∈ Region.ready .any ops listed := by rw [hr]; simp
        have := unl_set (mem_ready.1 hi).1
        omega
    exact ⟨hr, fin listed a w hI hr⟩
  | succ fuel ih =>
    intro listed a w hu hI
    refine ⟨fun hr => fin listed a w hI hr, fun i hi => ?_⟩
    obtain ⟨μ, q, I⟩ := hI
    have := unl_set (mem_ready.1 hi).1
    exact wpOp_mono (fun a' w' h => ih _ a' w' (by omega) h) (I.step D hi)

/-- The order of the text, carried out: the states on its way. -/
theorem chain {w0 : World} {μ0 : Mu} {h0 : H} {e : Env} {h h' : H} {e' : Env} (tys : TysOk P cx) (ck : CallOk P cx cf) (hd : DstOk m ops) {k : Nat} (ho : ops[k]? = some o) (hh : stepOp cx cf mask ops e h o = some (e', h'))
    (H0 : Here cx base mask m w0 μ0 h0 e h a w) : (∃ a' w', Here cx base mask m w0 μ0 h0 e' h' a' w') ∧ Grow h h' := by
  have H0' := H0
  obtain ⟨μ, s, r, x, dm, g, hm, hdf⟩ := H0'
  rcases stepOp_inv hh with ⟨hw, hset, rfl⟩ | ⟨hw, v, hx, hset⟩
  · exact ⟨⟨_, w, μ, s, RelE.put r .undef (fun s hs => by rw [hm]; exact hd k o s ho hs) hset, x, dm, g, by rw [Act.put_size]; exact hm, by rw [Act.put_defs]; exact hdf⟩, Grow.refl s.wf⟩
  · have hr := exec_ran (P := P) tys ck s r hx
    obtain ⟨c, w', hc⟩ := hr.some
    have h2 : Ran P (fun c w' => Here cx base mask m w0 μ0 h0 e' h' (a.put o.dst c) w') ((execOp a.eval o).run P w) :=
      H0.after (fun s hs => hd k o s ho hs) hset fun base μ s r => exec_ran tys ck s r hx
    obtain ⟨c2, w2, hc2⟩ := h2.some
    exact ⟨⟨_, _, hc2⟩, hc.2⟩

theorem draw_sound (hm : P.follows .mixedOrders = true) (tys : TysOk P cx) (ck : CallOk P cx cf) : DrawOk P cx cf drawB := by
  intro base mask m w0 μ0 h0 ops e e' h h' a w Q id hB hd hrun H0 hQ
  obtain ⟨E, Hs, q1, q2, q3, q4, q5, _, _, q8, q9, _, q11⟩ := runDraw_trace ops.toList 0 ⟨[], []⟩ e e' h h' (fun t => by simp) hrun
  simp only [Nat.zero_add, Array.length_toList] at q3 q4
  have tr : Trace cx cf mask ops E Hs := ⟨fun k o ho => q5 k o (Nat.zero_le _) ho, fun k k' b h1 h2 h3 => q8 k k' b (Nat.zero_le _) h1 h2 h3, fun k k' b h1 h2 h3 => q9 k k' b (Nat.zero_le _) h1 h2 h3, fun k k' b h1 h2 h3 => q11 k k' b (Nat.zero_le _) h1 h2 h3⟩
  obtain ⟨μs, s, r, x, dm, g, hma, hdf⟩ := H0
  subst q1 q2
  -- the text's order, from here on
  have way : ∀ k, k ≤ ops.size → ∃ a' w', Here cx base mask m w μs (Hs 0) (E k) (Hs k) a' w' := by
    intro k
    induction k with
    | zero => intro _; exact ⟨a, w, μs, s, r, ExtW.refl _ _, Dom.refl _ _, Grow.refl s.wf, hma, hdf⟩
    | succ k ih =>
      intro hk
      obtain ⟨a1, w1, H1⟩ := ih (by omega)
      have ho : ops[k]? = some ops[k] := by simp [show k < ops.size by omega]
      exact (chain tys ck hd ho (tr.step k _ ho) H1).1
  have grow : ∀ k, k < ops.size → Grow (Hs k) (Hs (k + 1)) := by
    intro k hk
    obtain ⟨a1, w1, H1⟩ := way k (by omega)
    have ho : ops[k]? = some ops[k] := by simp [hk]
    exact (chain tys ck hd ho (tr.step k _ ho) H1).2
  have D : Dr P cx cf base mask m ops E Hs { w with drawn := w.drawn + 1 } μs := by
    refine ⟨tys, ck, hd, tr, s, fun i j oi oj hi hj hij => drawB_pairs hB hi hj hij, fun j o ho => drawB_back hB ho, fun k hk sl v hv => ?_, fun k hk b y hb hy v hv => ?_, grow, fun k hk => ?_⟩
    · obtain ⟨a1, w1, μ1, s1, r1, _⟩ := way k hk
      exact (r1 sl v hv).low fun b L hb => s1.get_lt hb
    · obtain ⟨a1, w1, μ1, s1, r1, x1, d1, _⟩ := way k hk
      have hin : μ1 b ≠ none := by
        rcases hb with hb | hb
        · obtain ⟨L, hL⟩ := Option.ne_none_iff_exists'.1 hb
          obtain ⟨L', hL', _⟩ := x1.ext.mu b L hL
          rw [hL']; simp
        · exact d1.2.2 b hb (H.get_lt hy)
      obtain ⟨L, hL⟩ := Option.ne_none_iff_exists'.1 hin
      obtain ⟨z, hz, hok⟩ := s1.box b L hL
      rw [hy] at hz; simp only [Option.some.injEq] at hz; subst hz
      exact hok.low (fun b L hb => s1.get_lt hb) v hv
    · obtain ⟨a1, w1, μ1, s1, _⟩ := way k hk
      exact s1.wf
  have growN : ∀ k, k ≤ ops.size → Grow (Hs 0) (Hs k) := by
    intro k
    induction k with
    | zero => intro _; exact Grow.refl s.wf
    | succ k ih => intro hk; exact (ih (by omega)).trans (grow k (by omega))
  refine wp_region_any hm (any_sound D (fun a' w' μ' k1 k2 k3 k4 k5 k6 => ?_) ops.size _ a _ (by simp [unl]) ⟨μs, fun _ => 0, ?_⟩)
  · rw [q3] at k2
    rw [q4] at k1 k3
    have k4' : ExtW w μs w' μ' := ⟨k4.ext, k4.os, k4.tape, k4.output⟩
    exact hQ a' w' ⟨μ', k1, k2, x.trans k4', dm.trans (hp := w.heap) k3 k4'.ext, by have := growN ops.size (Nat.le_refl _); rw [q4] at this; exact g.trans this, k5, k6⟩
  · have hnone : ∀ k, (Array.replicate ops.size false).getD k false = false := by
      intro k
      rcases Nat.lt_or_ge k ops.size with h | h <;> simp [h]
    refine ⟨⟨by simp, fun j oj _ hl => ?_⟩, hma, hdf, fun _ => Nat.zero_le _, fun k b _ _ _ => ?_, ?_, fun sl v hv => ?_, fun b => ?_, ⟨Ext.refl _ _, rfl, rfl, rfl⟩⟩
    · rw [hnone] at hl; simp at hl
    · rw [hnone]; simp
    · refine s.congr (PH_wf _ _ _) fun b L hb => ?_
      have hlt := s.get_lt hb
      have hbn : b < (Hs ops.size).size := Nat.lt_of_lt_of_le hlt (size_mono D.mono (Nat.zero_le _) (Nat.le_refl _))
      rw [D.phGet (q := fun _ => 0) (Nat.zero_le _) hbn]
      have : crN Hs b ops.size ≤ 0 := (crN_iff D.mono hbn (Nat.zero_le _)).1 hlt
      rw [show max 0 (crN Hs b ops.size) = 0 by omega]
    · have : lwN ops (Array.replicate ops.size false) sl ops.size = 0 := by
        rcases lwN_spec (ops := ops) (listed := Array.replicate ops.size false) (s := sl) ops.size with h | ⟨k, _, _, h, _⟩
        · exact h
        · rw [hnone] at h; simp at h
      rw [this] at hv
      exact r sl v hv
    · rw [hnone]; simp
end
end Go.TI

/- Calls. -/
namespace Go.TI
set_option linter.unusedVariables false
section
variable {P : Program} {cx : Ctx} {cf : CallF} {base mask m : Nat} {w0 w : World} {μ0 μ : Mu} {h0 h h' : H} {e e' : Env} {a : Act}

theorem oneOrTuple_sound {vs : List T} {cs : Array Value} {hp : Array Obj} (hL : RelL hp μ vs cs.toList) : RelV hp μ (oneOrTuple vs) (if h : cs.size = 1 then cs[0] else .tuple cs) := by
  have htup : ∀ (hne : cs.size ≠ 1), RelV hp μ (.tuple vs) (if h : cs.size = 1 then cs[0] else .tuple cs) := by
    intro hne
    rw [dif_neg hne]
    exact .tuple vs cs (by simpa using hL.1.symm) fun k v hk => by simpa [Array.getD_eq_getD_getElem?, List.getD] using hL.2 k v hk
  have hlen := hL.1
  match vs, hL, hlen, htup with
  | [], hL, hlen, htup => exact htup (by simp at hlen; omega)
  | [v], hL, hlen, htup =>
    have h1 : cs.size = 1 := by simpa using hlen.symm
    rw [dif_pos h1]
    have := hL.2 0 v (by simp)
    simpa [oneOrTuple, List.getD, h1] using this
  | v1 :: v2 :: vs, hL, hlen, htup => exact htup (by simp at hlen; omega)

/-- What one result is. -/
def resultOf (tmps : Array Value) : ResultVar → Sem Value
  | .tmp t => pure (tmps.getD t Go.undef)
  | .cell b t => do loadVar t (← asAddr (tmps.getD b Go.undef))

theorem results_eq (fn : Func) (tmps : Array Value) : results fn tmps = (do let vs ← fn.results.mapM (resultOf tmps); pure (if h : vs.size = 1 then vs[0] else .tuple vs)) := by
  unfold results
  congr 1

theorem results_list (tys : TysOk P cx) (s : St cx base w.heap μ h) (r : RelE w.heap μ mask e a.tmps) : ∀ (l : List ResultVar) (vs : List T), resultsT cx mask e h l = some vs →
    ∃ cs : List Value, RelL w.heap μ vs cs ∧ (l.mapM (resultOf a.tmps)).run P w = .ok cs w := by
  intro l
  induction l with
  | nil =>
    intro vs hh
    have hh : some [] = some vs := hh
    simp only [Option.some.injEq] at hh; subst hh
    exact ⟨[], RelL.nil, by simp⟩
  | cons rv l ih =>
    intro vs hh
    unfold resultsT at hh
    rw [mapOpt_cons] at hh
    replace hh := bnd_eq_some.1 hh; obtain ⟨v, hv, hh⟩ := hh
    replace hh := bnd_eq_some.1 hh; obtain ⟨vs', hvs, hh⟩ := hh
    simp only [Option.some.injEq] at hh; subst hh
    obtain ⟨cs, hL, hrun⟩ := ih vs' hvs
    have key : ∀ d, (resultOf a.tmps rv).run P w = .ok d w → RelV w.heap μ v d → ∃ cs : List Value, RelL w.heap μ (v :: vs') cs ∧ ((rv :: l).mapM (resultOf a.tmps)).run P w = .ok cs w := by
      intro d hd hr
      refine ⟨d :: cs, RelL.cons hr hL, ?_⟩
      rw [List.mapM_cons, Sem.run_bind, hd, Result.andThen_ok, Sem.run_bind, hrun, Result.andThen_ok, Sem.run_pure]
    cases rv with
    | tmp t =>
      have hv : e.get mask t = some v := hv
      exact key _ (by simp only [resultOf, Sem.run_pure]) (r t v hv)
    | cell b t =>
      have hv : (bnd (e.get mask b) fun p => bnd (cx.ty t) fun ty => h.load ty p) = some v := hv
      replace hv := bnd_eq_some.1 hv; obtain ⟨p, hp, hv⟩ := hv
      replace hv := bnd_eq_some.1 hv; obtain ⟨ty, hty, hv⟩ := hv
      obtain ⟨ad, d, e1, e2, e3⟩ := load_sound (tys.ty t ty hty) s (r b p hp) hv
      exact key d (by simp only [resultOf, e1, asAddr, Sem.run_bind, Sem.run_pure, Result.andThen_ok, e2]) e3

theorem results_sound (tys : TysOk P cx) (s : St cx base w.heap μ h) (r : RelE w.heap μ mask e a.tmps) {fn : Func} {vs : List T} (hh : resultsT cx mask e h fn.results.toList = some vs) :
    ∃ c, (results fn a.tmps).run P w = .ok c w ∧ RelV w.heap μ (oneOrTuple vs) c := by
  obtain ⟨cs, hL, hrun⟩ := results_list (P := P) tys s r _ _ hh
  refine ⟨_, ?_, oneOrTuple_sound (cs := cs.toArray) (by simpa using hL)⟩
  rw [results_eq]
  have : fn.results.mapM (resultOf a.tmps) = List.toArray <$> fn.results.toList.mapM (resultOf a.tmps) := by
    rw [← List.mapM_toArray]
  rw [this, Sem.run_bind, Sem.run_map, hrun]
  rfl

/-! ### the beginning of a call -/

theorem initVars_look : ∀ (n i : Nat) (args : List T) (vars : Vars), initVars mask n i args = some vars → ∀ s v, look vars s = some v → (∃ k, s = i + k ∧ k < n ∧ (args[k]? = some v ∨ (args.length ≤ k ∧ v = .undef))) := by
  intro n
  induction n with
  | zero =>
    intro i args vars hh s v hv
    have hh : some Vars.nil = some vars := hh
    simp only [Option.some.injEq] at hh; subst hh
    simp [look] at hv
  | succ n ih =>
    intro i args vars hh s v hv
    have hh : (bnd (normNat (Nat.succ i)) fun i' => @List.rec T (fun _ => Option Vars)
      (@Bool.rec (fun _ => Option Vars) (initVars mask n i' []) (bnd (initVars mask n i' []) fun t => some (.cons i .undef t)) (lasts mask i))
      (fun a r _ => bnd (initVars mask n i' r) fun t => some (.cons i a t)) args) = some vars := hh
    simp only [normNat_eq, bnd_some] at hh
    have rest : ∀ {r : List T} {t : Vars}, initVars mask n (i + 1) r = some t → look t s = some v → ∃ k, s = i + (k + 1) ∧ k < n ∧ (r[k]? = some v ∨ (r.length ≤ k ∧ v = .undef)) := by
      intro r t ht hl
      obtain ⟨k, h1, h2, h3⟩ := ih (i + 1) r t ht s v hl
      exact ⟨k, by omega, h2, h3⟩
    cases args with
    | nil =>
      simp only at hh
      cases hl : lasts mask i with
      | false =>
        rw [hl] at hh
        obtain ⟨k, h1, h2, h3⟩ := rest hh hv
        refine ⟨k + 1, h1, by omega, .inr ?_⟩
        rcases h3 with h3 | h3
        · simp at h3
        · exact ⟨by simp, h3.2⟩
      | true =>
        rw [hl] at hh
        replace hh := bnd_eq_some.1 hh; obtain ⟨t, ht, hh⟩ := hh
        simp only [Option.some.injEq] at hh; subst hh
        rw [look_cons] at hv
        split at hv
        · rename_i hs
          simp only [Option.some.injEq] at hv
          exact ⟨0, by omega, by omega, .inr ⟨by simp, hv.symm⟩⟩
        · obtain ⟨k, h1, h2, h3⟩ := rest ht hv
          refine ⟨k + 1, h1, by omega, .inr ?_⟩
          rcases h3 with h3 | h3
          · simp at h3
          · exact ⟨by simp, h3.2⟩
    | cons x r =>
      simp only at hh
      replace hh := bnd_eq_some.1 hh; obtain ⟨t, ht, hh⟩ := hh
      simp only [Option.some.injEq] at hh; subst hh
      rw [look_cons] at hv
      split at hv
      · rename_i hs
        simp only [Option.some.injEq] at hv; subst hv
        exact ⟨0, by omega, by omega, .inl (by simp)⟩
      · obtain ⟨k, h1, h2, h3⟩ := rest ht hv
        refine ⟨k + 1, h1, by omega, ?_⟩
        rcases h3 with h3 | h3
        · exact .inl (by simpa using h3)
        · exact .inr ⟨by simp; omega, h3.2⟩

theorem init_sound {n : Nat} {args : List T} {vars : Vars} {hp : Array Obj} {cargs : Array Value} (hL : RelL hp μ args cargs.toList) (hh : initVars mask n 0 args = some vars) :
    RelE hp μ mask ⟨vars, .nil⟩ (cargs ++ Array.replicate (n - cargs.size) Go.undef) := by
  intro s v hv
  have hv : @Bool.rec (fun _ => Option T) (look .nil s) (look vars s) (lasts mask s) = some v := hv
  cases hl : lasts mask s with
  | false => rw [hl] at hv; simp [look] at hv
  | true =>
    rw [hl] at hv
    obtain ⟨k, h1, h2, h3⟩ := initVars_look n 0 args vars hh s v hv
    have hs : s = k := by omega
    subst hs
    have hlen : args.length = cargs.size := by simpa using hL.1
    rcases h3 with h3 | ⟨h3, rfl⟩
    · have hlt : s < args.length := by
        rcases Nat.lt_or_ge s args.length with h | h
        · exact h
        · rw [List.getElem?_eq_none h] at h3; simp at h3
      have hr := hL.2 s v h3
      have : (cargs ++ Array.replicate (n - cargs.size) Go.undef).getD s Go.undef = cargs.toList.getD s Go.undef := by
        rw [Array.getD_eq_getD_getElem?, Array.getElem?_append_left (by omega)]
        simp [List.getD]
      rw [this]; exact hr
    · have : (cargs ++ Array.replicate (n - cargs.size) Go.undef).getD s Go.undef = Go.undef := by
        rw [Array.getD_eq_getD_getElem?, Array.getElem?_append_right (by omega)]
        rcases Nat.lt_or_ge (s - cargs.size) (n - cargs.size) with h | h
        · simp [h]
        · rw [Array.getElem?_eq_none (by simpa using h)]; rfl
      rw [this]; exact .undef

theorem okCode_mono {m m' : Nat} {d : Array Oper → Bool} (hm : m ≤ m') : ∀ (c : Code), okCode m d c = true → okCode m' d c = true := by
  intro c
  induction c with
  | region id ops draw =>
    intro h
    simp only [okCode, Bool.and_eq_true] at h ⊢
    refine ⟨?_, h.2⟩
    have h1 := h.1
    unfold dstB at h1 ⊢
    rw [List.all_eq_true] at h1 ⊢
    intro o ho
    have := h1 o ho
    cases hd : o.dst with
    | none => rfl
    | some s =>
      rw [hd] at this
      simp only [Nat.blt_eq] at this ⊢
      omega
  | seq a b iha ihb => intro h; simp only [okCode, Bool.and_eq_true] at h ⊢; exact ⟨iha h.1, ihb h.2⟩
  | cond o a b iha ihb => intro h; simp only [okCode, Bool.and_eq_true] at h ⊢; exact ⟨iha h.1, ihb h.2⟩
  | block id b ih => intro h; simp only [okCode] at h ⊢; exact ih h
  | loop b ih => intro h; simp only [okCode] at h ⊢; exact ih h
  | _ => intro _; rfl

/-- What is asked of a function that is not walked into. -/
def PrimOk (P : Program) (cx : Ctx) (f : FuncId) (p : Prim) : Prop :=
  ∀ args h r h', primT p args h = some (r, h') → ∀ base w μ (cargs : Array Value), St cx base w.heap μ h → RelL w.heap μ args cargs.toList → Ran P (AfterG cx base w μ h r h') ((callFunc f cargs).run P w)

/-- The function's code, as the interpreter may take it. -/
def okFun (F : Fun) : Bool := !(F.fn.name == "runtime.NumGoroutine") && match F.fn.body with
  | none => false
  | some c => okCode F.fn.ntmps drawB c

/-- The table of functions is right. -/
structure FnsOk (P : Program) (cx : Ctx) : Prop where
  fn : ∀ f F, cx.fn f = some F → F.prim = none → P.funcs[f]? = some F.fn ∧ okFun F = true
  prim : ∀ f F p, cx.fn f = some F → F.prim = some p → PrimOk P cx f p

theorem run_callFunc_enter {f : FuncId} {fn : Func} {c : Code} (hf : P.funcs[f]? = some fn) (hname : (fn.name == "runtime.NumGoroutine") = false) (hb : fn.body = some c) (args : Array Value) (w : World) :
    (callFunc f args).run P w = .ok (.enter f args) w := by
  have hn : ¬ fn.name = "runtime.NumGoroutine" := by simpa using hname
  simp [callFunc, hf, hn, hb]

theorem body_sound (hm : P.follows .mixedOrders = true) (tys : TysOk P cx) (ck : CallOk P cx cf) {f : FuncId} {F : Fun} (hF : P.funcs[f]? = some F.fn) (hok : okFun F = true) {fuel : Nat} {args : List T} {r : T}
    (hh : bodyT cx cf fuel F.fn F.mask F.keep args h = some (r, h')) (s : St cx base w.heap μ h) {cargs : Array Value} (hL : RelL w.heap μ args cargs.toList) :
    Ran P (AfterG cx base w μ h r h') ((callFunc f cargs).run P w) := by
  unfold okFun at hok
  simp only [Bool.and_eq_true, Bool.not_eq_true'] at hok
  obtain ⟨hname, hok⟩ := hok
  unfold bodyT at hh
  cases hb : F.fn.body with
  | none => rw [hb] at hok; simp at hok
  | some c =>
    rw [hb] at hok hh
    simp only at hok
    obtain ⟨size, low, boxes⟩ := h
    simp only at hh
    replace hh := bnd_eq_some.1 hh; obtain ⟨vars, hvars, hh⟩ := hh
    replace hh := bnd_eq_some.1 hh; obtain ⟨⟨x, e1, h1⟩, hcode, hh⟩ := hh
    simp only [three_mk] at hh
    have hleave : (x = .normal ∨ x = .ret) ∧ (bnd (resultsT cx F.mask e1 h1 F.fn.results.toList) fun vs => leave F.keep size low (oneOrTuple vs) h1) = some (r, h') := by
      cases x with
      | normal => exact ⟨.inl rfl, hh⟩
      | exit i => simp at hh
      | ret => exact ⟨.inr rfl, hh⟩
    obtain ⟨hx, hleave⟩ := hleave
    replace hleave := bnd_eq_some.1 hleave; obtain ⟨vs, hvs, hleave⟩ := hleave
    rw [run_callFunc_enter hF hname hb]
    show Calls P f cargs w _
    refine calls_of_wp hF hb ?_
    have s1 : St cx base w.heap μ ⟨size, size, boxes⟩ := s.relow size
    have hre := init_sound (mask := F.mask) (n := F.fn.ntmps) hL hvars
    have H0 : Here cx base F.mask (cargs.size + (F.fn.ntmps - cargs.size)) w μ ⟨size, size, boxes⟩ ⟨vars, .nil⟩ ⟨size, size, boxes⟩ { tmps := cargs ++ Array.replicate (F.fn.ntmps - cargs.size) Go.undef, defers := [] } w :=
      ⟨μ, s1, hre, ExtW.refl _ _, Dom.refl _ _, Grow.refl s1.wf, by simp, rfl⟩
    refine code_sound (m := cargs.size + (F.fn.ntmps - cargs.size)) (w0 := w) (μ0 := μ) (h0 := ⟨size, size, boxes⟩) (base := base) (mask := F.mask) tys ck (draw_sound hm tys ck) fuel c (okCode_mono (by omega) c hok) _ _ x e1 h1 hcode _ _ _ H0 fun a' w' H1 => ?_
    have key : a'.defers = [] ∧ ∃ v, (results F.fn a'.tmps).run P w' = .ok v w' ∧ AfterG cx base w μ ⟨size, low, boxes⟩ r h' v w' := by
      obtain ⟨μ1, k1, k2, k3, k4, k5, k6, k7⟩ := H1
      obtain ⟨v, hrun, hv⟩ := results_sound (P := P) tys k1 k2 hvs
      obtain ⟨⟨μ2, g1, g2, g3, g4⟩, g5⟩ := leave_sound (low0 := low) s k1 k5 k3 k4 hv hleave
      exact ⟨k7, v, hrun, ⟨μ2, g1, g2, g3, g4⟩, g5⟩
    rcases hx with rfl | rfl
    · exact key
    · exact key

theorem call_sound (hm : P.follows .mixedOrders = true) (tys : TysOk P cx) (fns : FnsOk P cx) : ∀ n, CallOk P cx (callT cx n) := by
  intro n
  induction n with
  | zero => intro f args h r h' hh; simp [callT] at hh
  | succ n ih =>
    intro f args h r h' hh base w μ cargs s hL
    have hh : (bnd (cx.fn f) fun fn => @Fun.rec (fun _ => Option (T × H)) (fun fn mask keep prim =>
      @Option.rec Prim (fun _ => Option (T × H)) (bodyT cx (callT cx n) n fn mask keep args h) (fun p => primT p args h) prim) fn) = some (r, h') := hh
    replace hh := bnd_eq_some.1 hh; obtain ⟨F, hF, hh⟩ := hh
    obtain ⟨fn, mask, keep, prim⟩ := F
    simp only at hh
    cases prim with
    | none =>
      obtain ⟨h1, h2⟩ := fns.fn f _ hF rfl
      exact body_sound (F := ⟨fn, mask, keep, none⟩) hm tys ih h1 h2 hh s hL
    | some p => exact fns.prim f _ p hF rfl args h r h' hh base w μ cargs s hL
end
end Go.TI

/- Functions that are taken by a contract of their own: slices.Clone. -/
namespace Go.TI
set_option linter.unusedVariables false
section
variable {P : Program} {cx : Ctx} {base : Nat} {w : World} {μ : Mu} {h h' : H}

/-- The code of slices.Clone, at the slice type t; tb: the type of bools. -/
def cloneBody (t tb : TypeId) : Code :=
  (Code.region 0 #[{ dst := some 2, op := Op.assign (Operand.const (Value.slice none 0 0)), type := t, pos := "slices.go:355", after := #[], guard := none }] false).seq
    (((Code.region 1 #[{ dst := some 3, op := Op.move (Operand.tmp 0), type := t, pos := "slices.go:357", after := #[], guard := none },
          { dst := some 4, op := Op.binOp BinOp.eql t (Operand.tmp 3) (Operand.const (Value.slice none 0 0)) t, type := tb, pos := "slices.go:357", after := #[{ on := 0, ground := Ground.data }], guard := none }] false).seq
        (Code.cond (Operand.tmp 4)
          ((Code.region 2 #[{ dst := some 2, op := Op.assign (Operand.const (Value.slice none 0 0)), type := t, pos := "slices.go:358", after := #[], guard := none }] false).seq Code.ret)
          Code.skip)).seq
      ((Code.region 3 #[{ dst := some 5, op := Op.buildSlice t 0 #[], type := t, pos := "slices.go:362", after := #[], guard := none },
          { dst := some 6, op := Op.move (Operand.tmp 0), type := t, pos := "slices.go:362", after := #[], guard := none },
          { dst := some 7, op := Op.call { callee := Callee.builtin Builtin.append, args := #[Operand.tmp 5, Operand.tmp 6], argTypes := #[t, t] }, type := t, pos := "slices.go:362",
            after := #[{ on := 0, ground := Ground.data }, { on := 1, ground := Ground.data }], guard := none },
          { dst := some 2, op := Op.assign (Operand.tmp 7), type := t, pos := "slices.go:362",
            after := #[{ on := 2, ground := Ground.data }, { on := 2, ground := Ground.chain }, { on := 0, ground := Ground.phase }, { on := 1, ground := Ground.phase }, { on := 2, ground := Ground.phase }], guard := none }] false).seq
        Code.ret))

theorem wpOps_step {ops : Array Oper} {Q : Exit → Act → World → Prop} {i : Nat} {rest : List Nat} {a : Act} {w w' : World} {o : Oper} {v : Value} (ho : ops[i]? = some o) (hg : o.guard = none)
    (hrun : (execOp a.eval o).run P w = .ok (.value v) w') (h : wpOps P ops Q rest (a.put o.dst v) w') : wpOps P ops Q (i :: rest) a w := by
  rw [wpOps_cons]
  unfold wpOp
  simp only [ho]
  have hw : Region.wanted o (yielded ops a.tmps) = true := by simp [Region.wanted, hg]
  simp only [hw, if_true]
  left
  simp only [Oper.wp, hrun, Oper.upon]
  exact h

theorem clone_ok (tys : TysOk P cx) {f : FuncId} {fn : Func} {t tb : TypeId} {sz bytes : Nat} {te : Ty} (hF : P.funcs[f]? = some fn) (hname : (fn.name == "runtime.NumGoroutine") = false) (hb : fn.body = some (cloneBody t tb)) (hn : fn.ntmps = 8)
    (hr : fn.results = #[.tmp 2]) (hel : elemTy cx t = some te) (hsz : te.size = sz) (hbt : te.bytes = bytes) : PrimOk P cx f (.clone sz bytes) := by
  intro args h r h' hh base w μ cargs s hL
  subst hsz hbt
  have hargs : ∃ x, args = [x] := by
    match args, hh with
    | [x], _ => exact ⟨x, rfl⟩
  obtain ⟨x, rfl⟩ := hargs
  obtain ⟨c, cs, hcs, hx, hrest⟩ := hL.uncons
  have hnil : cs = [] := List.eq_nil_of_length_eq_zero (by have := hrest.1; simpa using this.symm)
  subst hnil
  have hca : cargs = #[c] := by apply Array.ext'; rw [hcs]
  subst hca
  have hh : (bnd (h.items x) fun es => @List.rec T (fun _ => Option (T × H)) (some (.tree [] false, h)) (fun _ _ _ => h.appendNew te.size te.bytes [] es) es) = some (r, h') := hh
  obtain ⟨es, hes, hh⟩ := bnd_eq_some.1 hh
  obtain ⟨el, hd, hte⟩ := elemTy_sound tys hel
  obtain ⟨sz', it⟩ := items_sound (P := P) s hx hes
  obtain ⟨ad, cap, news, hform, hle, hLn, hone, hcells⟩ := it.form
  rw [run_callFunc_enter hF hname hb]
  show Calls P f #[c] w _
  refine calls_of_wp hF hb ?_
  have ha0 : ({ tmps := #[c] ++ Array.replicate (fn.ntmps - (#[c] : Array Value).size) Go.undef, defers := [] } : Act) = { tmps := #[c, Go.undef, Go.undef, Go.undef, Go.undef, Go.undef, Go.undef, Go.undef], defers := [] } := by
    rw [hn]; rfl
  rw [ha0]
  unfold cloneBody
  refine wp_seq (wp_region ?_)
  refine wpOps_step (i := 0) (rest := []) rfl rfl (v := .slice none 0 0) (w' := w) (by simp [execOp, Act.eval]) ?_
  refine wp_seq (wp_seq (wp_region ?_))
  refine wpOps_step (i := 0) (rest := [1]) rfl rfl (v := c) (w' := w) (by simp [execOp, Act.eval, Act.put]) ?_
  refine wpOps_step (i := 1) (rest := []) rfl rfl (v := .bool ad.isNone) (w' := w) ?_ ?_
  · have hguard : ∀ q : Value, (eqGuard .eql t (.tmp 3) (.const (.slice none 0 0)) (.slice ad es.length cap) (.slice none 0 0)).run P w = .ok () w := fun _ => by simp [eqGuard]
    have heqn : ∀ n, (Op.equalIn (n + 1) t (.slice ad es.length cap) (.slice none 0 0)).run P w = .ok ad.isNone w := by
      intro n
      cases ad <;> simp [Op.equalIn, run_underlying hd]
    have heq : (binOp .eql t (.slice ad es.length cap) (.slice none 0 0)).run P w = .ok (.bool ad.isNone) w := by
      show (do pure (Value.bool (← Op.equal t (.slice ad es.length cap) (.slice none 0 0))) : Sem Value).run P w = _
      have h1 : (Op.equal t (.slice ad es.length cap) (.slice none 0 0)).run P w = .ok ad.isNone w := heqn 9999
      rw [Sem.run_bind, h1]
      rfl
    rw [hform]
    simp [execOp, Act.eval, Act.put, Sem.run_bind, hguard Go.undef, heq]
  -- the comparison's answer
  have post : ∀ (a : Act) (w' : World) (v : Value), a.defers = [] → a.tmps.getD 2 Go.undef = v → AfterG cx base w μ h r h' v w' →
      bodyPost P fn (fun e w'' => match e with | .returned v => AfterG cx base w μ h r h' v w'' | _ => False) .ret a w' := by
    intro a w' v hdf hv hA
    refine ⟨hdf, v, ?_, hA⟩
    rw [results_eq, hr, Sem.run_bind]
    have : (#[ResultVar.tmp 2].mapM (resultOf a.tmps)).run P w' = .ok #[a.tmps.getD 2 Go.undef] w' := by
      rw [show #[ResultVar.tmp 2] = [ResultVar.tmp 2].toArray from rfl, List.mapM_toArray, List.mapM_cons]
      simp [resultOf]
    rw [this, hv]
    rfl
  cases hnone : ad with
  | none =>
    -- nil
    have hes0 : es = [] := by
      rcases hcells with ⟨_, k⟩ | ⟨y, k, _⟩
      · exact k
      · rw [hnone] at k; simp at k
    rw [hes0] at hh
    have hh : some (T.tree [] false, h) = some (r, h') := hh
    simp only [Option.some.injEq, Prod.mk.injEq] at hh
    obtain ⟨rfl, rfl⟩ := hh
    refine wp_cond_true (by simp [Act.eval, Act.put]) ?_
    refine wp_seq (wp_region ?_)
    refine wpOps_step (i := 0) (rest := []) rfl rfl (v := .slice none 0 0) (w' := w) (by simp [execOp, Act.eval]) ?_
    refine wp_ret ?_
    refine post _ w (.slice none 0 0) rfl (by simp [Act.put]) ⟨⟨μ, .tree0 _ _, s, ExtW.refl _ _, Dom.refl _ _⟩, Grow.refl s.wf⟩
  | some y =>
    refine wp_cond_false (by simp [Act.eval, Act.put]) ?_
    refine wp_skip ?_
    refine wp_seq (wp_region ?_)
    -- the new row
    have hbs : (Instr.buildSlice t 0 #[]).run P w = .ok (.slice (some ⟨w.heap.size, 0, none⟩) 0 0) (w.alloc (.cells #[] el)) := by
      simp [Instr.buildSlice, run_underlying hd, (tys.ty _ _ hte).run_sizeOf, Instr.fill, newRow]
      congr 2
      apply Array.ext <;> simp
    refine wpOps_step (i := 0) (rest := [1, 2, 3]) rfl rfl (v := .slice (some ⟨w.heap.size, 0, none⟩) 0 0) (w' := (w.alloc (.cells #[] el))) (by simp [execOp, hbs]) ?_
    obtain ⟨s1, hext⟩ := s.grow (hp' := w.heap.push (.cells #[] el)) (by simp) (by intro i hi; rw [Array.getElem?_push]; simp; omega)
    have hx1 := hx.ext hext
    refine wpOps_step (i := 1) (rest := [2, 3]) rfl rfl (v := c) (w' := (w.alloc (.cells #[] el))) (by simp [execOp, Act.eval, Act.put]) ?_
    -- what is appended
    have hbapp : bAppend cx h t t (.tree [] false) x = some (.val r h') := by
      unfold bAppend
      rw [hel]
      have hsrc : srcItems cx h t x = some es := by
        unfold srcItems
        unfold elemTy at hel
        obtain ⟨ty, hty, hel'⟩ := bnd_eq_some.1 hel
        rw [hty]
        simp only [bnd_some]
        cases hut : ty.u <;> rw [hut] at hel' <;> simp only [reduceCtorEq] at hel'
        exact hes
      rw [hsrc]
      simp only [bnd_some]
      cases es with
      | nil =>
        have hh : some (T.tree [] false, h) = some (r, h') := hh
        simp only [Option.some.injEq, Prod.mk.injEq] at hh
        obtain ⟨rfl, rfl⟩ := hh
        rfl
      | cons e0 es =>
        have hh : h.appendNew te.size te.bytes [] (e0 :: es) = some (r, h') := hh
        have hfit : fits te.size (e0 :: es) = true := by
          have hh2 := hh
          unfold H.appendNew at hh2
          simp only [appN_eq, bnd_some, normNat_eq, lenN_eq] at hh2
          obtain ⟨_, hh2⟩ := chk_eq_some.1 hh2
          obtain ⟨_, hh2⟩ := chk_eq_some.1 hh2
          obtain ⟨_, hh2⟩ := chk_eq_some.1 hh2
          exact (chk_eq_some.1 hh2).1
        rw [hfit, chk_true]
        show valNew (h.appendNew te.size te.bytes [] (e0 :: es)) = _
        rw [valNew_eq_some]; exact hh
    obtain ⟨v, w2, μ2, d1, d2, d3, d4, d5⟩ := bAppend_sound (P := P) (w := (w.alloc (.cells #[] el))) (ty' := t) tys s1 (p := .tree [] false) (c := .slice (some ⟨w.heap.size, 0, none⟩) 0 0) (.tree0 _ _) hx1 hbapp
    refine wpOps_step (i := 2) (rest := [3]) rfl rfl (v := v) (w' := w2) (by simp [execOp, resolve, invoke, builtin, Act.eval, Act.put, d1]) ?_
    refine wpOps_step (i := 3) (rest := []) rfl rfl (v := v) (w' := w2) (by simp [execOp, Act.eval, Act.put]) ?_
    refine wp_ret ?_
    refine post _ w2 v rfl (by simp [Act.put]) ⟨⟨μ2, d2, d3, ?_, d5⟩, ?_⟩
    · exact ExtW.trans (w1 := w.alloc (.cells #[] el)) ⟨hext, rfl, rfl, rfl⟩ d4
    · cases es with
      | nil =>
        have hh : some (T.tree [] false, h) = some (r, h') := hh
        simp only [Option.some.injEq, Prod.mk.injEq] at hh
        obtain ⟨rfl, rfl⟩ := hh
        exact Grow.refl s.wf
      | cons e0 es => exact appendNew_grow s.wf hh

/-! ### bytealg.IndexByteString -/

theorem findByte_eq (c : Nat) : ∀ (l : List Nat) (i : Nat), findByte c l i = some (match (List.range l.length).find? (fun j => l[j]! == c) with | some j => ((i + j : Nat) : Int) | none => -1) := by
  intro l
  induction l with
  | nil => intro i; rfl
  | cons x l ih =>
    intro i
    have hh : findByte c (x :: l) i = @Bool.rec (fun _ => Option Int) (bnd (normNat (Nat.succ i)) fun i' => findByte c l i') (some (.ofNat i)) (Nat.beq x c) := rfl
    rw [hh]
    have hr : List.range (l.length + 1) = 0 :: (List.range l.length).map (· + 1) := List.range_succ_eq_map
    rw [List.length_cons, hr, List.find?_cons]
    cases hb : Nat.beq x c with
    | true =>
      have := Nat.eq_of_beq_eq_true hb
      subst this
      simp
    | false =>
      have hne := Nat.ne_of_beq_eq_false hb
      have h0 : ((x :: l)[0]! == c) = false := by simpa using hne
      rw [h0]
      simp only [normNat_eq, bnd_some]
      rw [ih (i + 1), List.find?_map]
      have : ((fun j => (x :: l)[j]! == c) ∘ fun j => j + 1) = fun j => l[j]! == c := by
        funext j; simp
      rw [this]
      cases (List.range l.length).find? (fun j => l[j]! == c) with
      | none => rfl
      | some j => simp only [Option.map_some, Option.some.injEq]; congr 1; omega

theorem find?_congr' {α : Type} {p q : α → Bool} : ∀ {l : List α}, (∀ x ∈ l, p x = q x) → l.find? p = l.find? q
  | [], _ => rfl
  | x :: l, h => by
    rw [List.find?_cons, List.find?_cons, h x (by simp), find?_congr' fun y hy => h y (by simp [hy])]

theorem firstIdx_eq {l : List Nat} (hl : ∀ x ∈ l, x < 256) {c : Nat} (hc : c < 256) : firstIdx (bytesOf l) (UInt8.ofNat c) = match (List.range l.length).find? (fun j => l[j]! == c) with | some j => ((j : Nat) : Int) | none => -1 := by
  unfold firstIdx
  rw [size_bytesOf]
  have : (List.range l.length).find? (fun i => (bytesOf l)[i]! == UInt8.ofNat c) = (List.range l.length).find? (fun j => l[j]! == c) := by
    apply find?_congr'
    intro j hj
    have hj : j < l.length := List.mem_range.1 hj
    have h1 : (bytesOf l)[j]! = UInt8.ofNat l[j] := by
      have hs : j < (bytesOf l).size := by rw [size_bytesOf]; exact hj
      rw [getElem!_pos (bytesOf l) j hs]
      show (bytesOf l).data[j] = _
      simp [bytesOf]
    rw [h1, getElem!_pos l j hj]
    have hlt := hl l[j] (List.getElem_mem hj)
    by_cases h : l[j] = c
    · simp [h]
    · have : UInt8.ofNat l[j] ≠ UInt8.ofNat c := fun k => h (by
        have := congrArg UInt8.toNat k
        rwa [toNat_ofNat_lt hlt, toNat_ofNat_lt hc] at this)
      rw [beq_eq_false_iff_ne.2 this, beq_eq_false_iff_ne.2 h]
  rw [this]
  cases (List.range l.length).find? (fun j => l[j]! == c) <;> rfl

theorem indexByte_ok {f : FuncId} {fn : Func} (hF : P.funcs[f]? = some fn) (hname : (fn.name == "runtime.NumGoroutine") = false) (hb : fn.body.isNone = true) (hn : Extern.findNext fn = none)
    (he : Extern.find fn = some Extern.BytealgIndexByte.indexByte) : PrimOk P cx f .indexByteString := by
  intro args h r h' hh base w μ cargs s hL
  have hform : ∃ l c, args = [.str l, .int .u8 (.ofNat c)] ∧ c < 256 ∧ (bnd (findByte c l 0) fun n => some (T.int .i64 n, h)) = some (r, h') := by
    unfold primT at hh
    simp only at hh
    split at hh
    · rename_i l c
      obtain ⟨h1, hh⟩ := chk_eq_some.1 hh
      rw [Nat.blt_eq] at h1
      exact ⟨l, c, rfl, h1, hh⟩
    · simp at hh
  obtain ⟨l, c, rfl, hc, hh⟩ := hform
  obtain ⟨c1, cs, hcs, hv, hrest⟩ := hL.uncons
  obtain ⟨c2, cs', rfl, hv2, hrest2⟩ := hrest.uncons
  have hnil : cs' = [] := List.eq_nil_of_length_eq_zero (by have := hrest2.1; simpa using this.symm)
  subst hnil
  have hca : cargs = #[c1, c2] := by apply Array.ext'; rw [hcs]
  subst hca
  obtain ⟨e1, hl⟩ := hv.inv_str
  have e2 := hv2.inv_int
  subst e1 e2
  obtain ⟨n, hn', hh⟩ := bnd_eq_some.1 hh
  simp only [Option.some.injEq, Prod.mk.injEq] at hh
  obtain ⟨rfl, rfl⟩ := hh
  rw [run_callFunc_extern hF hname hb hn he]
  have hrun := run_indexByte_string (P := P) (bytesOf l) (Int.ofNat c) w
  rw [hrun]
  have hcc : (Int.ofNat c).toNat.toUInt8 = UInt8.ofNat c := rfl
  rw [hcc, firstIdx_eq hl hc]
  rw [findByte_eq] at hn'
  simp only [Option.some.injEq, Nat.zero_add] at hn'
  rw [hn']
  exact ⟨⟨μ, .int _ _, s, ExtW.refl _ _, Dom.refl _ _⟩, Grow.refl s.wf⟩
end
end Go.TI

/- The interpreter, quick: regions as terms of their own; the same results. -/
namespace Go.TI
set_option linter.unusedVariables false

noncomputable def fin (cf : CallF) (h : H) (d : Option Did) : Option (T × H) := bnd d fun d => Did.casesOn d (fun v h' => some (v, h')) (fun f args => cf f args h)
def finV (h : H) (x : Option T) : Option (T × H) := Option.casesOn x none fun v => some (v, h)
theorem fin_val (cf : CallF) : (fun (h : H) (x : Option T) => fin cf h (val h x)) = finV := by
  funext h x; cases x <;> rfl
def finE (h : H) (n : Bool) (x : Option Bool) : Option (T × H) := Bool.casesOn n none (Option.casesOn x none fun r => Bool.casesOn r (some (.bool false, h)) (some (.bool true, h)))
def finN (h : H) (n : Bool) (x : Option Bool) : Option (T × H) := Bool.casesOn n none (Option.casesOn x none fun r => Bool.casesOn r (some (.bool true, h)) (some (.bool false, h)))
theorem fin_eq (cf : CallF) : (fun (h : H) (n : Bool) (x : Option Bool) => fin cf h (chk n (bnd x fun r => val h (rBool r)))) = finE := by
  funext h n x; cases n <;> cases x <;> first | rfl | (rename_i r; cases r <;> rfl)
theorem fin_ne (cf : CallF) : (fun (h : H) (n : Bool) (x : Option Bool) => fin cf h (chk n (bnd x fun r => val h (rBool (!r))))) = finN := by
  funext h n x; cases n <;> cases x <;> first | rfl | (rename_i r; cases r <;> rfl)

section
variable {cx : Ctx} {cf : CallF} {mask : Nat} {ops : Array Oper}

noncomputable def stepV (cx : Ctx) (cf : CallF) (mask : Nat) (ops : Array Oper) (e : Env) (h : H) (o : Oper) : Option (T × H) :=
  bnd (wantT ops mask e o.guard) fun want => Bool.casesOn want (some (.undef, h)) (fin cf h (opH o.op cx mask e h))

/-- As bnd; opened first by the kernel. -/
noncomputable abbrev nxt {α ρ : Type} (x : Option α) (k : α → Option ρ) : Option ρ := @Option.rec α (fun _ => Option ρ) none k x

noncomputable def runK {ρ : Type} (cx : Ctx) (cf : CallF) (mask : Nat) (ops : Array Oper) (l : List Oper) : Env → H → (Env → H → Option ρ) → Option ρ :=
  @List.rec Oper (fun _ => Env → H → (Env → H → Option ρ) → Option ρ) (fun e h k => k e h)
    (fun o _ ih e h k => nxt (stepV cx cf mask ops e h o) fun p => two p fun v h' => nxt (e.dst mask o.dst v) fun e' => ih e' h' k) l

theorem stepOp_stepV {ρ : Type} (e : Env) (h : H) (o : Oper) (k : Env → H → Option ρ) :
    (bnd (stepOp cx cf mask ops e h o) fun p => two p k) = bnd (stepV cx cf mask ops e h o) fun p => two p fun v h' => bnd (e.dst mask o.dst v) fun e' => k e' h' := by
  unfold stepOp stepV
  cases wantT ops mask e o.guard with
  | none => rfl
  | some want =>
    simp only [bnd_some]
    cases want with
    | false =>
      simp only [two_mk, bnd_some]
      cases e.dst mask o.dst .undef <;> rfl
    | true =>
      simp only
      unfold fin
      cases opH o.op cx mask e h with
      | none => rfl
      | some d =>
        simp only [bnd_some]
        cases d with
        | val v h' =>
          simp only [two_mk, bnd_some]
          cases e.dst mask o.dst v <;> rfl
        | «call» f args =>
          simp only
          cases cf f args h with
          | none => rfl
          | some r =>
            obtain ⟨v, h'⟩ := r
            simp only [two_mk, bnd_some]
            cases e.dst mask o.dst v <;> rfl

theorem runK_eq {ρ : Type} : ∀ (l : List Oper) (e : Env) (h : H) (k : Env → H → Option ρ), (bnd (runOps cx cf mask ops l e h) fun p => two p k) = runK cx cf mask ops l e h k := by
  intro l
  induction l with
  | nil => intro e h k; rfl
  | cons o l ih =>
    intro e h k
    have h1 : runOps cx cf mask ops (o :: l) e h = bnd (stepOp cx cf mask ops e h o) fun p => two p fun e' h' => runOps cx cf mask ops l e' h' := rfl
    have h2 : runK cx cf mask ops (o :: l) e h k = bnd (stepV cx cf mask ops e h o) fun p => two p fun v h' => bnd (e.dst mask o.dst v) fun e' => runK cx cf mask ops l e' h' k := rfl
    rw [h1, h2, ← stepOp_stepV e h o fun e' h' => runK cx cf mask ops l e' h' k]
    cases stepOp cx cf mask ops e h o with
    | none => rfl
    | some p => obtain ⟨e', h'⟩ := p; exact ih e' h' k
end

/-! ### slots: which there are -/

def keys : Vars → List Nat
  | .nil => []
  | .cons k _ r => k :: keys r

theorem keys_setVar {l l' : Vars} {s : Nat} {v : T} (hs : s ∈ keys l) (hh : setVar l s v = some l') : keys l' = keys l := by
  induction l generalizing l' with
  | nil => simp [keys] at hs
  | cons k u r ih =>
    have hh : @Bool.rec (fun _ => Option Vars) (bnd (setVar r s v) fun t => some (.cons k u t)) (some (.cons k v r)) (Nat.beq k s) = some l' := hh
    cases hb : Nat.beq k s with
    | true =>
      rw [hb] at hh
      have hh : some (Vars.cons k v r) = some l' := hh
      simp only [Option.some.injEq] at hh; subst hh; rfl
    | false =>
      rw [hb] at hh
      have hh : (bnd (setVar r s v) fun t => some (Vars.cons k u t)) = some l' := hh
      obtain ⟨t, ht, hh⟩ := bnd_eq_some.1 hh
      simp only [Option.some.injEq] at hh; subst hh
      have hk := Nat.ne_of_beq_eq_false hb
      have : s ∈ keys r := by
        rcases List.mem_cons.1 hs with h | h
        · exact absurd h.symm hk
        · exact h
      simp [keys, ih this ht]

def mkV : List Nat → List T → Vars
  | k :: ks, x :: xs => .cons k x (mkV ks xs)
  | _, _ => .nil

theorem vars_of_keys : ∀ {K : List Nat} {l : Vars}, keys l = K → ∃ xs, xs.length = K.length ∧ l = mkV K xs := by
  intro K
  induction K with
  | nil => intro l h; cases l with | nil => exact ⟨[], rfl, rfl⟩ | cons => simp [keys] at h
  | cons k K ih =>
    intro l h
    cases l with
    | nil => simp [keys] at h
    | cons k' x r =>
      simp only [keys, List.cons.injEq] at h
      obtain ⟨rfl, h⟩ := h
      obtain ⟨xs, hl, rfl⟩ := ih h
      exact ⟨x :: xs, by simp [hl], rfl⟩

/-- The same where these slots are there. -/
def EqR (K : List Nat) (f g : Env → H → Out) : Prop := ∀ e h, keys e.vars = K → f e h = g e h
/-- The slots stay. -/
def Pres (K : List Nat) (f : Env → H → Out) : Prop := ∀ e h x e' h', keys e.vars = K → f e h = some (x, e', h') → keys e'.vars = K

section
variable {cx : Ctx} {cf : CallF} {mask fuel : Nat} {K : List Nat}

def okOps (mask : Nat) (K : List Nat) (ops : Array Oper) : Bool := ops.toList.all fun o => match o.dst with | some s => !lasts mask s || K.contains s | none => true
def okKeys (mask : Nat) (K : List Nat) : Code → Bool
  | .region _ ops _ => okOps mask K ops
  | .seq a b => okKeys mask K a && okKeys mask K b
  | .cond _ a b => okKeys mask K a && okKeys mask K b
  | .block _ b => okKeys mask K b
  | .loop b => okKeys mask K b
  | _ => true

theorem keys_dst {e e' : Env} {o : Oper} {v : T} (ho : (match o.dst with | some s => !lasts mask s || K.contains s | none => true) = true) (hk : keys e.vars = K) (hh : e.dst mask o.dst v = some e') : keys e'.vars = K := by
  cases hd : o.dst with
  | none =>
    rw [hd] at hh
    have hh : some e = some e' := hh
    simp only [Option.some.injEq] at hh; subst hh; exact hk
  | some s =>
    rw [hd] at hh ho
    obtain ⟨vars, tmps⟩ := e
    have hh : @Bool.rec (fun _ => Option Env) (some ⟨vars, .cons s v tmps⟩) (bnd (setVar vars s v) fun l => some ⟨l, tmps⟩) (lasts mask s) = some e' := hh
    cases hl : lasts mask s with
    | false =>
      rw [hl] at hh
      have hh : some (⟨vars, .cons s v tmps⟩ : Env) = some e' := hh
      simp only [Option.some.injEq] at hh; subst hh; exact hk
    | true =>
      rw [hl] at hh
      have hh : (bnd (setVar vars s v) fun l => some (⟨l, tmps⟩ : Env)) = some e' := hh
      obtain ⟨l, hl', hh⟩ := bnd_eq_some.1 hh
      simp only [Option.some.injEq] at hh; subst hh
      simp only [hl, Bool.not_true, Bool.false_or] at ho
      have hs : s ∈ keys vars := by
        have hk : keys vars = K := hk
        rw [hk]; simpa using ho
      show keys l = K
      rw [keys_setVar hs hl']; exact hk

theorem keys_step {e e' : Env} {h h' : H} {o : Oper} {ops : Array Oper} (ho : (match o.dst with | some s => !lasts mask s || K.contains s | none => true) = true) (hk : keys e.vars = K) (hh : stepOp cx cf mask ops e h o = some (e', h')) : keys e'.vars = K := by
  rcases stepOp_inv hh with ⟨_, h1, _⟩ | ⟨_, v, _, h1⟩
  · exact keys_dst ho hk h1
  · exact keys_dst ho hk h1

theorem keys_runOps {ops : Array Oper} : ∀ (l : List Oper) (e e' : Env) (h h' : H), (∀ o ∈ l, (match o.dst with | some s => !lasts mask s || K.contains s | none => true) = true) → keys e.vars = K → runOps cx cf mask ops l e h = some (e', h') → keys e'.vars = K := by
  intro l
  induction l with
  | nil =>
    intro e e' h h' _ hk hh
    have hh : some (e, h) = some (e', h') := hh
    simp only [Option.some.injEq, Prod.mk.injEq] at hh
    rw [← hh.1]; exact hk
  | cons o l ih =>
    intro e e' h h' ho hk hh
    have hh : (bnd (stepOp cx cf mask ops e h o) fun p => two p fun e' h' => runOps cx cf mask ops l e' h') = some (e', h') := hh
    obtain ⟨⟨e1, h1⟩, hs, hh⟩ := bnd_eq_some.1 hh
    exact ih e1 e' h1 h' (fun o' ho' => ho o' (by simp [ho'])) (keys_step (ho o (by simp)) hk hs) hh

theorem keys_runDraw {ops : Array Oper} : ∀ (l : List Oper) (i : Nat) (s : Seen) (e e' : Env) (h h' : H), (∀ o ∈ l, (match o.dst with | some s => !lasts mask s || K.contains s | none => true) = true) → keys e.vars = K →
    runDraw cx cf mask ops l i s e h = some (e', h') → keys e'.vars = K := by
  intro l
  induction l with
  | nil =>
    intro i s e e' h h' _ hk hh
    have hh : some (e, h) = some (e', h') := hh
    simp only [Option.some.injEq, Prod.mk.injEq] at hh
    rw [← hh.1]; exact hk
  | cons o l ih =>
    intro i s e e' h h' ho hk hh
    obtain ⟨e1, h1, want, hs, hw, s', hrun, _⟩ := runDraw_cons hh
    exact ih (i + 1) s' e1 e' h1 h' (fun o' ho' => ho o' (by simp [ho'])) (keys_step (ho o (by simp)) hk hs) hrun

theorem pres_region {ops : Array Oper} {draw : Bool} (hok : okOps mask K ops = true) : Pres K (regionT cx cf mask ops draw) := by
  intro e h x e' h' hk hh
  unfold okOps at hok
  have hok := List.all_eq_true.1 hok
  obtain ⟨vars, tmps⟩ := e
  cases draw with
  | false =>
    have hh : (bnd (runOps cx cf mask ops ops.toList ⟨vars, .nil⟩ h) fun r => two r fun e' h' => some (Ex.normal, (⟨e'.vars, .nil⟩ : Env), h')) = some (x, e', h') := hh
    obtain ⟨⟨e1, h1⟩, hr, hh⟩ := bnd_eq_some.1 hh
    simp only [two_mk, Option.some.injEq, Prod.mk.injEq] at hh
    obtain ⟨_, rfl, _⟩ := hh
    exact keys_runOps ops.toList ⟨vars, .nil⟩ e1 h h1 hok hk hr
  | true =>
    have hh : (bnd (runDraw cx cf mask ops ops.toList 0 ⟨[], []⟩ ⟨vars, .nil⟩ h) fun r => two r fun e' h' => some (Ex.normal, (⟨e'.vars, .nil⟩ : Env), h')) = some (x, e', h') := hh
    obtain ⟨⟨e1, h1⟩, hr, hh⟩ := bnd_eq_some.1 hh
    simp only [two_mk, Option.some.injEq, Prod.mk.injEq] at hh
    obtain ⟨_, rfl, _⟩ := hh
    exact keys_runDraw ops.toList 0 ⟨[], []⟩ ⟨vars, .nil⟩ e1 h h1 hok hk hr

theorem pres_loop {f : Env → H → Out} (hf : Pres K f) : ∀ n, Pres K (loopT f n) := by
  intro n
  induction n with
  | zero => intro e h x e' h' _ hh; simp [loopT] at hh
  | succ n ih =>
    intro e h x e' h' hk hh
    have hh : (bnd (f e h) fun r => three r fun x e' h' => @Ex.rec (fun _ => Out) (loopT f n e' h') (fun i => some (.exit i, e', h')) (some (.ret, e', h')) x) = some (x, e', h') := hh
    obtain ⟨⟨y, e1, h1⟩, hb, hh⟩ := bnd_eq_some.1 hh
    have hk1 := hf e h y e1 h1 hk hb
    cases y with
    | normal => exact ih e1 h1 x e' h' hk1 hh
    | exit i =>
      have hh : some (Ex.exit i, e1, h1) = some (x, e', h') := hh
      simp only [Option.some.injEq, Prod.mk.injEq] at hh
      obtain ⟨_, rfl, _⟩ := hh; exact hk1
    | ret =>
      have hh : some (Ex.ret, e1, h1) = some (x, e', h') := hh
      simp only [Option.some.injEq, Prod.mk.injEq] at hh
      obtain ⟨_, rfl, _⟩ := hh; exact hk1

theorem pres_code : ∀ (c : Code), okKeys mask K c = true → Pres K (codeT cx cf fuel mask c) := by
  intro c
  have same : ∀ {x : Ex}, Pres K (fun e h => some (x, e, h)) := by
    intro x e h y e' h' hk hh
    simp only [Option.some.injEq, Prod.mk.injEq] at hh
    rw [← hh.2.1]; exact hk
  induction c with
  | skip => intro _; exact same
  | exit id => intro _; exact same
  | ret => intro _; exact same
  | region id ops draw => intro hok; exact pres_region hok
  | seq a b iha ihb =>
    intro hok e h x e' h' hk hh
    simp only [okKeys, Bool.and_eq_true] at hok
    have hh : (bnd (codeT cx cf fuel mask a e h) fun r => three r fun x e' h' => @Ex.rec (fun _ => Out) (codeT cx cf fuel mask b e' h') (fun i => some (.exit i, e', h')) (some (.ret, e', h')) x) = some (x, e', h') := hh
    obtain ⟨⟨y, e1, h1⟩, hb, hh⟩ := bnd_eq_some.1 hh
    have hk1 := iha hok.1 e h y e1 h1 hk hb
    cases y with
    | normal => exact ihb hok.2 e1 h1 x e' h' hk1 hh
    | exit i =>
      have hh : some (Ex.exit i, e1, h1) = some (x, e', h') := hh
      simp only [Option.some.injEq, Prod.mk.injEq] at hh
      obtain ⟨_, rfl, _⟩ := hh; exact hk1
    | ret =>
      have hh : some (Ex.ret, e1, h1) = some (x, e', h') := hh
      simp only [Option.some.injEq, Prod.mk.injEq] at hh
      obtain ⟨_, rfl, _⟩ := hh; exact hk1
  | cond o a b iha ihb =>
    intro hok e h x e' h' hk hh
    simp only [okKeys, Bool.and_eq_true] at hok
    have hh : (bnd (opnd cx mask e o) fun v => match v with
      | .bool t => @Bool.rec (fun _ => Out) (codeT cx cf fuel mask b e h) (codeT cx cf fuel mask a e h) t
      | _ => none) = some (x, e', h') := hh
    obtain ⟨v, hv, hh⟩ := bnd_eq_some.1 hh
    cases v <;> simp only [reduceCtorEq] at hh
    rename_i t
    cases t with
    | true => exact iha hok.1 e h x e' h' hk hh
    | false => exact ihb hok.2 e h x e' h' hk hh
  | block id b ih =>
    intro hok e h x e' h' hk hh
    have hh : (bnd (codeT cx cf fuel mask b e h) fun r => three r fun x e' h' => @Ex.rec (fun _ => Out) (some (.normal, e', h')) (fun i => @Bool.rec (fun _ => Out) (some (.exit i, e', h')) (some (.normal, e', h')) (Nat.beq i id)) (some (.ret, e', h')) x) = some (x, e', h') := hh
    obtain ⟨⟨y, e1, h1⟩, hb, hh⟩ := bnd_eq_some.1 hh
    have hk1 := ih hok e h y e1 h1 hk hb
    have : e' = e1 := by
      cases y with
      | normal => simp only [three_mk, Option.some.injEq, Prod.mk.injEq] at hh; exact hh.2.1.symm
      | exit i => simp only [three_mk] at hh; cases hbq : Nat.beq i id <;> rw [hbq] at hh <;> simp only [Option.some.injEq, Prod.mk.injEq] at hh <;> exact hh.2.1.symm
      | ret => simp only [three_mk, Option.some.injEq, Prod.mk.injEq] at hh; exact hh.2.1.symm
    rw [this]; exact hk1
  | loop b ih => intro hok; exact pres_loop (ih hok) fuel
  | _ => intro _ e h x e' h' _ hh; exact absurd hh (by simp [codeT])

/-! ### the same, part by part -/

theorem EqR.refl (f : Env → H → Out) : EqR K f f := fun _ _ _ => rfl

theorem EqR.seq {a b : Code} {a' b' : Env → H → Out} (hok : okKeys mask K a = true) (ha : EqR K (codeT cx cf fuel mask a) a') (hb : EqR K (codeT cx cf fuel mask b) b') : EqR K (codeT cx cf fuel mask (.seq a b)) (seqT a' b') := by
  intro e h hk
  show seqT (codeT cx cf fuel mask a) (codeT cx cf fuel mask b) e h = seqT a' b' e h
  unfold seqT
  rw [ha e h hk]
  cases hx : a' e h with
  | none => rfl
  | some r =>
    obtain ⟨y, e1, h1⟩ := r
    have hk1 := pres_code (cx := cx) (cf := cf) (fuel := fuel) a hok e h y e1 h1 hk (by rw [ha e h hk]; exact hx)
    simp only [bnd_some, three_mk]
    cases y with
    | normal => exact hb e1 h1 hk1
    | exit i => rfl
    | ret => rfl

/-- A branch on a slot that lasts. -/
noncomputable def condF (s : Nat) (a b : Env → H → Out) (e : Env) (h : H) : Out :=
  Env.casesOn e fun vs _ => bnd (look vs s) fun v => match v with
    | .bool t => Bool.casesOn t (b e h) (a e h)
    | _ => none

theorem EqR.cond {s : Nat} {a b : Code} {a' b' : Env → H → Out} (hl : lasts mask s = true) (ha : EqR K (codeT cx cf fuel mask a) a') (hb : EqR K (codeT cx cf fuel mask b) b') : EqR K (codeT cx cf fuel mask (.cond (.tmp s) a b)) (condF s a' b') := by
  intro e h hk
  obtain ⟨vars, tmps⟩ := e
  show condT cx mask (.tmp s) (codeT cx cf fuel mask a) (codeT cx cf fuel mask b) ⟨vars, tmps⟩ h = condF s a' b' ⟨vars, tmps⟩ h
  unfold condT condF
  have : opnd cx mask ⟨vars, tmps⟩ (.tmp s) = look vars s := by
    show @Bool.rec (fun _ => Option T) (look tmps s) (look vars s) (lasts mask s) = _
    rw [hl]
  rw [this]
  simp only
  cases look vars s with
  | none => rfl
  | some v =>
    simp only [bnd_some]
    cases v <;> first
      | rfl
      | (rename_i t; cases t <;> first | exact ha ⟨vars, tmps⟩ h hk | exact hb ⟨vars, tmps⟩ h hk)

theorem EqR.block {id : Nat} {a : Code} {a' : Env → H → Out} (ha : EqR K (codeT cx cf fuel mask a) a') : EqR K (codeT cx cf fuel mask (.block id a)) (blockT id a') := by
  intro e h hk
  show blockT id (codeT cx cf fuel mask a) e h = blockT id a' e h
  unfold blockT
  rw [ha e h hk]

theorem EqR.loop {a : Code} {a' : Env → H → Out} (hok : okKeys mask K a = true) (ha : EqR K (codeT cx cf fuel mask a) a') : EqR K (codeT cx cf fuel mask (.loop a)) (loopT a' fuel) := by
  have key : ∀ n, EqR K (loopT (codeT cx cf fuel mask a) n) (loopT a' n) := by
    intro n
    induction n with
    | zero => intro e h _; rfl
    | succ n ih =>
      intro e h hk
      show (bnd (codeT cx cf fuel mask a e h) fun r => three r fun x e' h' => @Ex.rec (fun _ => Out) (loopT (codeT cx cf fuel mask a) n e' h') (fun i => some (.exit i, e', h')) (some (.ret, e', h')) x)
        = bnd (a' e h) fun r => three r fun x e' h' => @Ex.rec (fun _ => Out) (loopT a' n e' h') (fun i => some (.exit i, e', h')) (some (.ret, e', h')) x
      rw [ha e h hk]
      cases hx : a' e h with
      | none => rfl
      | some r =>
        obtain ⟨y, e1, h1⟩ := r
        have hk1 := pres_code (cx := cx) (cf := cf) (fuel := fuel) a hok e h y e1 h1 hk (by rw [ha e h hk]; exact hx)
        simp only [bnd_some, three_mk]
        cases y with
        | normal => exact ih e1 h1 hk1
        | exit i => rfl
        | ret => rfl
  exact key fuel

/-- How a region's term takes its small parts: values; equality; inequality. -/
abbrev RegF := (H → Option T → Option (T × H)) → (H → Bool → Option Bool → Option (T × H)) → (H → Bool → Option Bool → Option (T × H)) → CallF → Env → H → Out

/-- A region that runs in its order. -/
theorem EqR.reg {id : Nat} {ops : Array Oper} (R : RegF)
    (hR : ∀ xs, xs.length = K.length → ∀ h, runK cx cf mask ops ops.toList ⟨mkV K xs, .nil⟩ h (fun e' h' => some (Ex.normal, Env.casesOn e' fun vs _ => ⟨vs, .nil⟩, h')) =
      R (fun h x => fin cf h (val h x)) (fun h n x => fin cf h (chk n (bnd x fun r => val h (rBool r)))) (fun h n x => fin cf h (chk n (bnd x fun r => val h (rBool (!r))))) cf ⟨mkV K xs, .nil⟩ h)
    (htm : ∀ vs tm h, R finV finE finN cf ⟨vs, tm⟩ h = R finV finE finN cf ⟨vs, .nil⟩ h) : EqR K (codeT cx cf fuel mask (.region id ops false)) (R finV finE finN cf) := by
  intro e h hk
  obtain ⟨vars, tmps⟩ := e
  obtain ⟨xs, hl, rfl⟩ := vars_of_keys hk
  rw [htm]
  have h1 := hR xs hl h
  rw [fin_val, fin_eq, fin_ne] at h1
  rw [← h1, ← runK_eq]
  rfl
end
end Go.TI
