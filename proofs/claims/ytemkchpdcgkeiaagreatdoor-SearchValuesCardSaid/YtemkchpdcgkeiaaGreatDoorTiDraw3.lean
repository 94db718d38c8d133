/- Regions that draw their order: one step of any order; the whole. -/
import Derived.Test.YtemkchpdcgkeiaaGreatDoorTiDraw2
namespace Go.TI
set_option linter.unusedSimpArgs false
set_option linter.unusedVariables false
set_option linter.unusedVariables false

/-- All that is known of a region's trace, and of the state at its beginning. -/
structure Dr (P : Program) (cx : Ctx) (cf : CallF) (base mask m : Nat) (ops : Array Oper) (E : Nat → Env) (Hs : Nat → H) (ws : World) (μs : Mu) : Prop where
  tys : TysOk P cx
  ck : CallOk P cx cf
  dst : DstOk m ops
  tr : Trace cx cf mask ops E Hs
  st0 : St cx base ws.heap μs (Hs 0)
  pairs : ∀ i j oi oj, ops[i]? = some oi → ops[j]? = some oj → i < j → (oi.apart ops oj = true ∧ (isEff oi.op = true → isEff oj.op = true → isStore oi.op = true ∧ isStore oj.op = true)) ∨ ordered ops i j = true
  back : ∀ j o, ops[j]? = some o → ∀ e ∈ o.after, Region.binds .any e = true → e.on < j
  low1 : ∀ k, k ≤ ops.size → ∀ s v, (E k).get mask s = some v → Low (Hs k).size v
  low2 : ∀ k, k ≤ ops.size → ∀ b x, (μs b ≠ none ∨ (Hs 0).size ≤ b) → (Hs k).get b = some x → ∀ v ∈ flat x.elems, Low (Hs k).size v
  grow : ∀ k, k < ops.size → Grow (Hs k) (Hs (k + 1))
  wf : ∀ k, k ≤ ops.size → (Hs k).boxes.length = (Hs k).size

/-- What stands when the operations in 'listed' are done. -/
structure Inv (cx : Ctx) (base mask m : Nat) (ops : Array Oper) (E : Nat → Env) (Hs : Nat → H) (ws : World) (μs : Mu) (listed : Array Bool) (a : Act) (w : World) (μ : Mu) (q : Nat → Nat) : Prop where
  cl : Cl ops listed
  size : a.tmps.size = m
  defs : a.defers = []
  qle : ∀ b, q b ≤ ops.size
  effs : ∀ k b, EffW mask ops E k → b < (Hs k).size → sameVer (Hs k) (Hs (k + 1)) b = false → (listed.getD k false = true ↔ k < q b)
  st : St cx base w.heap μ (PH Hs ops.size q)
  slots : ∀ s v, (E (lwN ops listed s ops.size)).get mask s = some v → RelV w.heap μ v (a.tmps.getD s Go.undef)
  dom : ∀ b, μ b ≠ none ↔ (μs b ≠ none ∨ ((Hs 0).size ≤ b ∧ b < (Hs ops.size).size ∧ listed.getD (crN Hs b ops.size - 1) false = true))
  ext : ExtW ws μs w μ

section
variable {P : Program} {cx : Ctx} {cf : CallF} {base mask m : Nat} {ops : Array Oper} {E : Nat → Env} {Hs : Nat → H} {ws w : World} {μs μ : Mu} {listed : Array Bool} {a : Act} {q : Nat → Nat}

theorem Dr.mono (D : Dr P cx cf base mask m ops E Hs ws μs) : ∀ k, k < ops.size → (Hs k).size ≤ (Hs (k + 1)).size := fun k hk => (D.grow k hk).size

theorem Dr.lt0 (D : Dr P cx cf base mask m ops E Hs ws μs) {b : Nat} (hb : μs b ≠ none) : b < (Hs 0).size := by
  obtain ⟨L, hL⟩ := Option.ne_none_iff_exists'.1 hb
  exact D.st0.get_lt hL

/-- What is no change leaves the boxes as they are. -/
theorem Dr.still (D : Dr P cx cf base mask m ops E Hs ws μs) {k b : Nat} (hk : k < ops.size) (hb : b < (Hs k).size) (hne : ¬ EffW mask ops E k) : (Hs (k + 1)).get b = (Hs k).get b := by
  have ho : ops[k]? = some ops[k] := by simp [hk]
  rcases stepOp_inv (D.tr.step k _ ho) with ⟨_, _, h⟩ | ⟨hw, v, hx, _⟩
  · rw [h]
  · have he : isEff ops[k].op = false := by
      cases h : isEff ops[k].op with
      | false => rfl
      | true => exact absurd ⟨_, ho, h, hw⟩ hne
    rcases opH_heap (h2 := Hs k) he (fun _ _ _ => rfl) (exec_val he hx) with ⟨h, _⟩ | ⟨f, x, _, _, _, h, _⟩
    · rw [h]
    · rw [h]; exact H.get_cons_other hb x

theorem Dr.ver (D : Dr P cx cf base mask m ops E Hs ws μs) {k b : Nat} (hk : k < ops.size) (hb : b < (Hs k).size) (hs : sameVer (Hs k) (Hs (k + 1)) b = true) : (Hs (k + 1)).get b = (Hs k).get b := by
  obtain ⟨x, hx⟩ := H.get_some (D.wf k (by omega)) hb
  obtain ⟨y, hy, hor⟩ := (D.grow k hk).ver b x hx
  rcases hor with rfl | hlt
  · rw [hx, hy]
  · unfold sameVer at hs
    rw [hx, hy] at hs
    have hs : Nat.beq x.ver y.ver = true := hs
    have := Nat.eq_of_beq_eq_true hs
    omega

theorem Dr.same (D : Dr P cx cf base mask m ops E Hs ws μs) {k b : Nat} (hk : k < ops.size) (hb : b < (Hs k).size) (h : EffW mask ops E k → sameVer (Hs k) (Hs (k + 1)) b = false → False) : (Hs (k + 1)).get b = (Hs k).get b := by
  by_cases hek : EffW mask ops E k
  · cases hsv : sameVer (Hs k) (Hs (k + 1)) b with
    | true => exact D.ver hk hb hsv
    | false => exact (h hek hsv).elim
  · exact D.still hk hb hek

theorem Dr.phGet (D : Dr P cx cf base mask m ops E Hs ws μs) {b : Nat} (hq : q b ≤ ops.size) (hb : b < (Hs ops.size).size) : (PH Hs ops.size q).get b = (Hs (max (q b) (crN Hs b ops.size))).get b :=
  PH_get D.mono D.wf hq hb

theorem Inv.lt (D : Dr P cx cf base mask m ops E Hs ws μs) (I : Inv cx base mask m ops E Hs ws μs listed a w μ q) {b : Nat} {L : Loc} (hb : μ b = some L) : b < (Hs ops.size).size := I.st.get_lt hb

variable {j : Nat} {o : Oper}

/-- What is ready is not yet listed, and all that it waits for is. -/
structure Rdy (ops : Array Oper) (listed : Array Bool) (j : Nat) (o : Oper) : Prop where
  op : ops[j]? = some o
  lt : j < ops.size
  not : listed.getD j false = false
  before : ∀ i, ordered ops i j = true → listed.getD i false = true
  behind : ∀ k, ordered ops j k = true → listed.getD k false = false
  edges : ∀ e ∈ o.after, Region.binds .any e = true → listed.getD e.on false = true

theorem getD_off {listed : Array Bool} {i : Nat} (h : listed.getD i true = false) : listed.getD i false = false := by
  rcases Nat.lt_or_ge i listed.size with h' | h'
  · simp [h'] at h ⊢; exact h
  · simp [Array.getElem?_eq_none h'] at h

theorem rdy (c : Cl ops listed) (hj : j ∈ Region.ready .any ops listed) : ∃ o, Rdy ops listed j o := by
  obtain ⟨h0, o, ho, hall⟩ := mem_ready.1 hj
  have hlt : j < ops.size := (Array.getElem?_eq_some_iff.1 ho).1
  refine ⟨o, ho, hlt, getD_off h0, fun i hi => ordered_in c hi ho hall, fun k hk => ?_, hall⟩
  cases hb : listed.getD k false with
  | false => rfl
  | true =>
    have hks : k < listed.size := by
      rcases Nat.lt_or_ge k listed.size with h | h
      · exact h
      · simp [Array.getElem?_eq_none h] at hb
    have hko : ops[k]? = some (ops[k]'(by rw [← c.size]; exact hks)) := by
      have : k < ops.size := by rw [← c.size]; exact hks
      simp [this]
    have := ordered_in c hk hko (c.closed k _ hko hb)
    rw [getD_off h0] at this; simp at this

theorem Cl.set (c : Cl ops listed) (r : Rdy ops listed j o) : Cl ops (listed.setIfInBounds j true) := by
  refine ⟨by simp [c.size], fun k ok hk hl e he hb => ?_⟩
  by_cases hjk : j = k
  · subst hjk
    have : ok = o := Option.some.inj (hk.symm.trans r.op)
    subst this
    exact getD_set_true (r.edges e he hb)
  · rw [getD_set_ne false hjk] at hl
    exact getD_set_true (c.closed k ok hk hl e he hb)

theorem set_same (c : Cl ops listed) (r : Rdy ops listed j o) : (listed.setIfInBounds j true).getD j false = true := by
  have : j < listed.size := by rw [c.size]; exact r.lt
  simp [this]

/-- The slots that an operation looks at hold what they hold in the text's order. -/
theorem Inv.look (D : Dr P cx cf base mask m ops E Hs ws μs) (I : Inv cx base mask m ops E Hs ws μs listed a w μ q) (r : Rdy ops listed j o) {s : Nat} (hs : s ∈ o.looksAt ops) :
    (E (lwN ops listed s ops.size)).get mask s = (E j).get mask s := by
  have writers : ∀ k ok, ops[k]? = some ok → ok.dst = some s → (k < j → listed.getD k false = true) ∧ (j < k → listed.getD k false = false) := by
    intro k ok hk hd
    refine ⟨fun hlt => ?_, fun hlt => ?_⟩
    · rcases D.pairs k j ok o hk r.op hlt with ⟨hap, _⟩ | hor
      · exact absurd hs ((Oper.apart_spec hap).1 s hd)
      · exact r.before k hor
    · rcases D.pairs j k o ok r.op hk hlt with ⟨hap, _⟩ | hor
      · exact absurd hs ((Oper.apart_spec hap).2.2 s hd)
      · exact r.behind k hor
  have hlw : lwN ops listed s ops.size ≤ j := by
    rcases lwN_spec (ops := ops) (listed := listed) (s := s) ops.size with h | ⟨k, h1, h2, h3, h4⟩
    · omega
    · have hko : ops[k]? = some ops[k] := by simp [h2]
      rw [hko] at h4
      have hw := writers k _ hko h4
      rcases Nat.lt_trichotomy k j with h | h | h
      · omega
      · subst h; rw [r.not] at h3; simp at h3
      · rw [hw.2 h] at h3; simp at h3
  -- no writer in between
  have key : ∀ d, lwN ops listed s ops.size + d ≤ j → (E (lwN ops listed s ops.size + d)).get mask s = (E (lwN ops listed s ops.size)).get mask s := by
    intro d
    induction d with
    | zero => intro _; rfl
    | succ d ih =>
      intro hd
      have hk : lwN ops listed s ops.size + d < ops.size := by have := r.lt; omega
      have hko : ops[lwN ops listed s ops.size + d]? = some ops[lwN ops listed s ops.size + d] := by simp [hk]
      rw [← ih (by omega)]
      have hnot : ops[lwN ops listed s ops.size + d].dst ≠ some s := by
        intro hd'
        have hw := (writers _ _ hko hd').1 (by omega)
        have := lwN_ge (n := ops.size) hk hw (by rw [hko]; exact hd')
        omega
      have hset : ∀ v e', (E (lwN ops listed s ops.size + d)).dst mask ops[lwN ops listed s ops.size + d].dst v = some e' → e'.get mask s = (E (lwN ops listed s ops.size + d)).get mask s := by
        intro v e' hh
        cases hdst : ops[lwN ops listed s ops.size + d].dst with
        | none => rw [hdst] at hh; have hh : some _ = some e' := hh; simp only [Option.some.injEq] at hh; rw [hh]
        | some t =>
          rw [hdst] at hh hnot
          have hne : s ≠ t := fun e => hnot (by rw [e])
          rw [Env.get_set (show Env.set mask _ t v = some e' from hh) s, if_neg hne]
      rcases stepOp_inv (D.tr.step _ _ hko) with ⟨_, hh, _⟩ | ⟨_, v, _, hh⟩
      · exact hset _ _ hh
      · exact hset _ _ hh
  have := key (j - lwN ops listed s ops.size) (by omega)
  rw [show lwN ops listed s ops.size + (j - lwN ops listed s ops.size) = j by omega] at this
  exact this.symm

theorem Inv.relE (D : Dr P cx cf base mask m ops E Hs ws μs) (I : Inv cx base mask m ops E Hs ws μs listed a w μ q) (r : Rdy ops listed j o) : RelE w.heap μ mask (rEnv mask (E j) (o.looksAt ops)) a.tmps := by
  intro s v hv
  rw [rEnv_get] at hv
  split at hv
  · rename_i hs
    exact I.slots s v (by rw [I.look D r hs]; exact hv)
  · simp at hv

/-- The slots behind a step. -/
theorem Inv.slots' (D : Dr P cx cf base mask m ops E Hs ws μs) (I : Inv cx base mask m ops E Hs ws μs listed a w μ q) (r : Rdy ops listed j o) {hp' : Array Obj} {μ' : Mu} (x : Ext w.heap μ hp' μ') {v : T} {c : Value}
    (hv : RelV hp' μ' v c) (hset : (E j).dst mask o.dst v = some (E (j + 1))) : ∀ s u, (E (lwN ops (listed.setIfInBounds j true) s ops.size)).get mask s = some u → RelV hp' μ' u ((a.put o.dst c).tmps.getD s Go.undef) := by
  intro s u hu
  by_cases hd : o.dst = some s
  · have hlw : lwN ops (listed.setIfInBounds j true) s ops.size = j + 1 := by
      have h1 := lwN_ge (ops := ops) (s := s) r.lt (set_same I.cl r) (by rw [r.op]; exact hd)
      rcases lwN_spec (ops := ops) (listed := listed.setIfInBounds j true) (s := s) ops.size with h | ⟨k, e1, e2, e3, e4⟩
      · omega
      · rcases Nat.lt_trichotomy k j with h | h | h
        · omega
        · omega
        · have hko : ops[k]? = some ops[k] := by simp [e2]
          rw [hko] at e4
          rw [getD_set_ne false (by omega)] at e3
          rcases D.pairs j k o _ r.op hko h with ⟨hap, _⟩ | hor
          · exact absurd e4 ((Oper.apart_spec hap).2.1 s hd)
          · rw [r.behind k hor] at e3; simp at e3
    rw [hlw] at hu
    rw [hd] at hset ⊢
    rw [Env.get_set (show Env.set mask _ s v = some _ from hset) s] at hu
    simp only [if_true, Option.some.injEq] at hu; subst hu
    have hlt : s < a.tmps.size := by rw [I.size]; exact D.dst j o s r.op hd
    simpa [Act.put, Array.getD_eq_getD_getElem?, hlt] using hv
  · have hlw : lwN ops (listed.setIfInBounds j true) s ops.size = lwN ops listed s ops.size := by
      refine lwN_congr fun k hk hkd => ?_
      have : j ≠ k := by rintro rfl; rw [r.op] at hkd; exact hd hkd
      exact getD_set_ne false this
    rw [hlw] at hu
    have hold := (I.slots s u hu).ext x
    cases hdst : o.dst with
    | none => exact hold
    | some t =>
      have hne : t ≠ s := by rintro rfl; exact hd hdst
      simpa [Act.put, Array.getD_eq_getD_getElem?, Array.getElem?_setIfInBounds_ne hne] using hold

/-- The heap at the stage, where a box that is looked at stands. -/
theorem Inv.looked (D : Dr P cx cf base mask m ops E Hs ws μs) (I : Inv cx base mask m ops E Hs ws μs listed a w μ q) (r : Rdy ops listed j o) (hne : isEff o.op = false) (hw : wantT ops mask (E j) o.guard = some true)
    {b : Nat} (hb : looksBox cx mask (E j) (Hs j) o.op = some b) {p : Nat} (hp : j ≤ p) (hpn : p ≤ ops.size) (hlt : b < (Hs p).size) (hpj : p = j ∨ p = j + 1) :
    (PH Hs ops.size q).get b = (Hs p).get b := by
  have hbn : b < (Hs ops.size).size := Nat.lt_of_lt_of_le hlt (size_mono D.mono hpn (Nat.le_refl _))
  rw [D.phGet (I.qle _) hbn]
  have hcr : crN Hs b ops.size ≤ p := (crN_iff D.mono hbn hpn).1 hlt
  have hlook : LookW cx mask ops E Hs j b := ⟨o, r.op, hne, hw, hb⟩
  have hnej : ¬ EffW mask ops E j := by
    rintro ⟨o', ho', he, _⟩
    rw [r.op] at ho'; simp only [Option.some.injEq] at ho'; subst ho'
    rw [hne] at he; simp at he
  rcases Nat.le_total (max (q b) (crN Hs b ops.size)) p with hle | hge
  · refine (get_between D.mono hle fun k hk1 hk2 => ?_).symm
    have hbk : b < (Hs k).size := (crN_iff D.mono hbn (by omega)).2 (by omega)
    by_cases hek : EffW mask ops E k
    · have hkj : k < j := by
        rcases Nat.lt_trichotomy k j with h | h | h
        · exact h
        · subst h; exact absurd hek hnej
        · omega
      cases hsv : sameVer (Hs k) (Hs (k + 1)) b with
      | true => exact D.ver (by omega) hbk hsv
      | false =>
        rcases D.tr.behind j k b hlook hek hkj with h | h
        · rw [hsv] at h; simp at h
        · have := (I.effs k b hek hbk hsv).1 (r.before k h)
          omega
    · exact D.still (by omega) hbk hek
  · refine get_between D.mono hge fun k hk1 hk2 => ?_
    have hqk : k < q b := by omega
    have hkn : k < ops.size := by have := I.qle b; omega
    have hbk : b < (Hs k).size := (crN_iff D.mono hbn (by omega)).2 (by omega)
    by_cases hek : EffW mask ops E k
    · have hkj : j < k := by
        rcases Nat.lt_trichotomy k j with h | h | h
        · omega
        · subst h; exact absurd hek hnej
        · exact h
      cases hsv : sameVer (Hs k) (Hs (k + 1)) b with
      | true => exact D.ver hkn hbk hsv
      | false =>
        rcases D.tr.ahead j k b hlook hek hkj with h | h
        · rw [hsv] at h; simp at h
        · have h1 := (I.effs k b hek hbk hsv).2 hqk
          rw [r.behind k h] at h1; simp at h1
    · exact D.still hkn hbk hek

theorem Inv.want (D : Dr P cx cf base mask m ops E Hs ws μs) (I : Inv cx base mask m ops E Hs ws μs listed a w μ q) (r : Rdy ops listed j o) {b : Bool} (hw : wantT ops mask (E j) o.guard = some b) :
    Region.wanted o (yielded ops a.tmps) = b :=
  want_sound (I.relE D r) (fun k p s hk hs => by rw [I.size]; exact D.dst k p s hk hs) (by rw [wantT_rEnv]; exact hw)

/-- A box that op j made, in the numbers. -/
theorem Dr.made (D : Dr P cx cf base mask m ops E Hs ws μs) (hj : j < ops.size) {b : Nat} (hb : b < (Hs ops.size).size) : crN Hs b ops.size = j + 1 ↔ ((Hs j).size ≤ b ∧ b < (Hs (j + 1)).size) := by
  have h1 := crN_iff D.mono hb (show j ≤ ops.size by omega)
  have h2 := crN_iff D.mono hb (show j + 1 ≤ ops.size by omega)
  constructor
  · intro h
    refine ⟨?_, h2.2 (by omega)⟩
    rcases Nat.lt_or_ge b (Hs j).size with k | k
    · have := h1.1 k; omega
    · exact k
  · rintro ⟨k1, k2⟩
    have := h2.1 k2
    have : ¬ crN Hs b ops.size ≤ j := fun k => by have := h1.2 k; omega
    omega

theorem Dr.cr0 (D : Dr P cx cf base mask m ops E Hs ws μs) {b : Nat} (hb : b < (Hs ops.size).size) (h0 : (Hs 0).size ≤ b) : 0 < crN Hs b ops.size := by
  rcases Nat.eq_zero_or_pos (crN Hs b ops.size) with h | h
  · have := (crN_iff D.mono hb (Nat.zero_le _)).2 (by omega); omega
  · exact h

/-- The list's word on a box that op j did not make stays. -/
theorem Dr.keepL (D : Dr P cx cf base mask m ops E Hs ws μs) (hj : j < ops.size) {b : Nat} (hb : b < (Hs ops.size).size) (h0 : (Hs 0).size ≤ b) (hn : ¬ ((Hs j).size ≤ b ∧ b < (Hs (j + 1)).size)) :
    (listed.setIfInBounds j true).getD (crN Hs b ops.size - 1) false = listed.getD (crN Hs b ops.size - 1) false := by
  refine getD_set_ne false fun h => hn ?_
  have := D.cr0 hb h0
  exact (D.made hj hb).1 (by omega)

/-- The domain where no box is made. -/
theorem Inv.domSame (D : Dr P cx cf base mask m ops E Hs ws μs) (I : Inv cx base mask m ops E Hs ws μs listed a w μ q) (r : Rdy ops listed j o) (hH : (Hs (j + 1)).size = (Hs j).size) {μ' : Mu} (hd : ∀ b, μ' b ≠ none ↔ μ b ≠ none) :
    ∀ b, μ' b ≠ none ↔ (μs b ≠ none ∨ ((Hs 0).size ≤ b ∧ b < (Hs ops.size).size ∧ (listed.setIfInBounds j true).getD (crN Hs b ops.size - 1) false = true)) := by
  intro b
  rw [hd, I.dom]
  refine or_congr Iff.rfl ⟨fun ⟨h1, h2, h3⟩ => ⟨h1, h2, ?_⟩, fun ⟨h1, h2, h3⟩ => ⟨h1, h2, ?_⟩⟩
  · rw [D.keepL r.lt h2 h1 (by rw [hH]; omega)]; exact h3
  · rw [D.keepL r.lt h2 h1 (by rw [hH]; omega)] at h3; exact h3

theorem not_eff_of (r : Rdy ops listed j o) (h : isEff o.op = false ∨ wantT ops mask (E j) o.guard = some false) : ¬ EffW mask ops E j := by
  rintro ⟨o', ho', he, hw⟩
  rw [r.op] at ho'; simp only [Option.some.injEq] at ho'; subst ho'
  rcases h with h | h
  · rw [h] at he; simp at he
  · rw [h] at hw; simp at hw

theorem Inv.effsSame (I : Inv cx base mask m ops E Hs ws μs listed a w μ q) (hne : ¬ EffW mask ops E j) :
    ∀ k b, EffW mask ops E k → b < (Hs k).size → sameVer (Hs k) (Hs (k + 1)) b = false → ((listed.setIfInBounds j true).getD k false = true ↔ k < q b) := by
  intro k b hk hb hv
  have : j ≠ k := by rintro rfl; exact hne hk
  rw [getD_set_ne false this]
  exact I.effs k b hk hb hv

variable {Q : Exit → Act → World → Prop}

/-- An operation that is not wanted. -/
theorem Inv.skip (D : Dr P cx cf base mask m ops E Hs ws μs) (I : Inv cx base mask m ops E Hs ws μs listed a w μ q) (r : Rdy ops listed j o) (hw : wantT ops mask (E j) o.guard = some false)
    (hset : (E j).dst mask o.dst .undef = some (E (j + 1))) (hH : Hs (j + 1) = Hs j) : Inv cx base mask m ops E Hs ws μs (listed.setIfInBounds j true) (a.put o.dst Go.undef) w μ q :=
  ⟨I.cl.set r, by rw [Act.put_size]; exact I.size, by rw [Act.put_defs]; exact I.defs, I.qle, I.effsSame (not_eff_of r (.inr hw)), I.st,
    I.slots' D r (Ext.refl _ _) .undef hset, I.domSame D r (by rw [hH]) fun _ => Iff.rfl, I.ext⟩

/-- An operation that changes no box. -/
theorem Inv.quiet (D : Dr P cx cf base mask m ops E Hs ws μs) (I : Inv cx base mask m ops E Hs ws μs listed a w μ q) (r : Rdy ops listed j o) (hw : wantT ops mask (E j) o.guard = some true) (hne : isEff o.op = false) {v : T}
    (hx : Exec cx cf mask (E j) (Hs j) o.op v (Hs (j + 1))) (hset : (E j).dst mask o.dst v = some (E (j + 1))) :
    Ran P (fun c w' => ∃ μ', Inv cx base mask m ops E Hs ws μs (listed.setIfInBounds j true) (a.put o.dst c) w' μ' q) ((execOp a.eval o).run P w) := by
  have hnot := not_eff_of (mask := mask) (E := E) r (.inl hne)
  have hop := exec_val hne hx
  have hcg : ∀ x ∈ o.op.operands, opnd cx mask (E j) x = opnd cx mask (rEnv mask (E j) (o.looksAt ops)) x := fun x hx => opnd_rEnv hx
  rw [opH_congr hcg] at hop
  have hlk : ∀ b, looksBox cx mask (rEnv mask (E j) (o.looksAt ops)) (Hs j) o.op = some b → b < (Hs j).size → (PH Hs ops.size q).get b = (Hs j).get b := by
    intro b hb hlt
    rw [← looksBox_congr hcg] at hb
    exact I.looked D r hne hw hb (Nat.le_refl _) (Nat.le_of_lt r.lt) hlt (.inl rfl)
  rcases opH_heap hne hlk hop with ⟨hH, hop2⟩ | ⟨f, x, hf, hb, hv, hH, hop2⟩
  · -- nothing is made
    refine ((opH_val D.tys I.st (I.relE D r) hop2).ran).mono fun c w' hc => ?_
    obtain ⟨μ', k1, k2, k3, k4⟩ := hc
    refine ⟨μ', I.cl.set r, by rw [Act.put_size]; exact I.size, by rw [Act.put_defs]; exact I.defs, I.qle, I.effsSame hnot, k2, I.slots' D r k3.ext k1 hset, ?_, I.ext.trans k3⟩
    refine I.domSame D r (by rw [hH]) fun b => ⟨fun hb => ?_, fun hb => ?_⟩
    · rcases k4.2.1 b hb with h | h
      · exact h
      · omega
    · obtain ⟨L, hL⟩ := Option.ne_none_iff_exists'.1 hb
      obtain ⟨L', hL', _⟩ := k3.ext.mu b L hL
      rw [hL']; simp
  · -- a box is made
    subst hv
    have hN : (PH Hs ops.size q).size = (Hs ops.size).size := rfl
    have hsz1 : (Hs (j + 1)).size = (Hs j).size + 1 := by rw [hH]; rfl
    have hbjN : (Hs j).size < (Hs ops.size).size := by
      have := size_mono D.mono (show j + 1 ≤ ops.size from r.lt) (Nat.le_refl _); omega
    have h0j : (Hs 0).size ≤ (Hs j).size := size_mono D.mono (Nat.zero_le _) (Nat.le_of_lt r.lt)
    have hcrj : crN Hs (Hs j).size ops.size = j + 1 := (D.made r.lt hbjN).2 ⟨Nat.le_refl _, by omega⟩
    have hμbj : μ (Hs j).size = none := by
      cases hm : μ (Hs j).size with
      | none => rfl
      | some L =>
        exfalso
        rcases (I.dom (Hs j).size).1 (by rw [hm]; simp) with h | ⟨_, _, h⟩
        · have := D.lt0 h; omega
        · rw [hcrj] at h; simp only [Nat.add_sub_cancel] at h; rw [r.not] at h; simp at h
    have hgetx : (Hs (j + 1)).get (Hs j).size = some x := by rw [hH]; exact H.get_cons_same (D.wf j (Nat.le_of_lt r.lt)) x
    have hphx : (PH Hs ops.size q).get (Hs j).size = some x := by
      rw [← looksBox_congr hcg] at hb
      rw [I.looked D r hne hw hb (show j ≤ j + 1 by omega) r.lt (by omega) (.inr rfl)]
      exact hgetx
    refine ((opH_val D.tys I.st (I.relE D r) hop2).ran).mono fun c w' hc => ?_
    obtain ⟨μ', k1, k2, k3, k4⟩ := hc
    rw [hN] at k1 k4
    have hcons : ((PH Hs ops.size q).cons x).size = (Hs ops.size).size + 1 := rfl
    rw [hcons] at k4
    have hμN : μ' (Hs ops.size).size ≠ none := k4.2.2 _ (Nat.le_refl _) (by omega)
    have hltN : ∀ b L, μ b = some L → b < (Hs ops.size).size := fun b L hb => I.st.get_lt hb
    have hdom' : ∀ b, b ≠ (Hs ops.size).size → (μ' b ≠ none ↔ μ b ≠ none) := by
      intro b hbN
      constructor
      · intro hb
        rcases k4.2.1 b hb with h | h
        · exact h
        · omega
      · intro hb
        obtain ⟨L, hL⟩ := Option.ne_none_iff_exists'.1 hb
        obtain ⟨L', hL', _⟩ := k3.ext.mu b L hL
        rw [hL']; simp
    have hμ'bj : μ' (Hs j).size = none := by
      cases hm : μ' (Hs j).size with
      | none => rfl
      | some L => exact absurd hμbj ((hdom' _ (by omega)).1 (by rw [hm]; simp))
    obtain ⟨LN, hLN⟩ := Option.ne_none_iff_exists'.1 hμN
    let μ2 : Mu := ⟨fun b => if b = (Hs j).size then μ' (Hs ops.size).size else if b = (Hs ops.size).size then none else μ' b, μ'.res⟩
    have e1 : μ2 (Hs j).size = μ' (Hs ops.size).size := by simp [μ2]
    have e2 : μ2 (Hs ops.size).size = none := by
      have : (Hs ops.size).size ≠ (Hs j).size := by omega
      simp [μ2, this]
    have e3 : ∀ b, b ≠ (Hs j).size → b ≠ (Hs ops.size).size → μ2 b = μ' b := fun b h1 h2 => by simp [μ2, h1, h2]
    have hin : ∀ i, InMu μ2 i → InMu μ' i := by
      rintro i (⟨b, L, hb, hl⟩ | hr)
      · by_cases h1 : b = (Hs j).size
        · subst h1; rw [e1] at hb; exact .inl ⟨_, L, hb, hl⟩
        · by_cases h2 : b = (Hs ops.size).size
          · subst h2; rw [e2] at hb; simp at hb
          · rw [e3 b h1 h2] at hb; exact .inl ⟨b, L, hb, hl⟩
      · exact .inr hr
    have hm2 : ∀ b L, b < (Hs ops.size).size → μ' b = some L → μ2 b = some L := by
      intro b L hb hL
      have h1 : b ≠ (Hs j).size := by rintro rfl; rw [hμ'bj] at hL; simp at hL
      rw [e3 b h1 (by omega)]; exact hL
    have hext : Ext w.heap μ w'.heap μ2 := by
      refine ⟨k3.ext.size, fun i hi hn => ?_, fun b L hb => ?_, k3.ext.res, k3.ext.kept⟩
      · obtain ⟨q1, q2⟩ := k3.ext.old i hi hn
        exact ⟨q1, fun h => q2 (hin i h)⟩
      · obtain ⟨L', hL', hor⟩ := k3.ext.mu b L hb
        exact ⟨L', hm2 b L' (hltN b L hb) hL', hor⟩
    have hres : RelV w'.heap μ2 (f (Hs j).size) c := by
      rcases hf with hf | ⟨l, hf⟩ | hf | hf
      · rw [hf] at k1 ⊢
        cases k1 with | ptr _ _ _ _ L ad hb he ha => exact .ptr _ _ _ _ L ad (by rw [e1]; exact hb) he ha
      · rw [hf] at k1 ⊢
        cases k1 with | arr _ _ _ _ _ L ad cp hb he hl h => exact .arr _ _ _ _ _ L ad cp (by rw [e1]; exact hb) he hl h
      · rw [hf] at k1 ⊢
        cases k1 with | iter _ L ad hb h => exact .iter _ L ad (by rw [e1]; exact hb) h
      · rw [hf] at k1 ⊢
        cases k1 with | map _ L i hb h => exact .map _ L i (by rw [e1]; exact hb) h
    have hst : St cx base w'.heap μ2 (PH Hs ops.size q) := by
      refine ⟨PH_wf _ _ _, k2.fit, fun b L hb => ?_, fun b b' L L' hb hb' hl => ?_, fun b L hb => ?_, fun b L hb => ?_, k2.resLt, fun g cs hg => ?_⟩
      · by_cases h1 : b = (Hs j).size
        · subst h1
          rw [e1] at hb
          obtain ⟨y, hy, hok⟩ := k2.box _ L hb
          have hyx : y = x := by
            have := H.get_cons_same (PH_wf Hs ops.size q) x
            rw [hN, hy] at this
            simpa using this
          subst hyx
          refine ⟨y, hphx, hok.conv (n := (Hs ops.size).size) (fun u hu => ?_) hm2 hin⟩
          exact (D.low2 (j + 1) r.lt _ y (.inr h0j) hgetx u hu).mono (by omega)
        · by_cases h2 : b = (Hs ops.size).size
          · subst h2; rw [e2] at hb; simp at hb
          · rw [e3 b h1 h2] at hb
            obtain ⟨y, hy, hok⟩ := k2.box b L hb
            have hbμ : μ b ≠ none := (hdom' b h2).1 (by rw [hb]; simp)
            obtain ⟨L0, hL0⟩ := Option.ne_none_iff_exists'.1 hbμ
            have hlt := hltN b L0 hL0
            rw [H.get_cons_other (by rw [hN]; exact hlt)] at hy
            refine ⟨y, hy, hok.conv (n := (Hs ops.size).size) (fun u hu => ?_) hm2 hin⟩
            obtain ⟨z, hz, hzok⟩ := I.st.box b L0 hL0
            rw [hy] at hz; simp only [Option.some.injEq] at hz; subst hz
            exact hzok.low hltN u hu
      · have back : ∀ b L, μ2 b = some L → (b = (Hs j).size ∧ μ' (Hs ops.size).size = some L) ∨ (b ≠ (Hs j).size ∧ b ≠ (Hs ops.size).size ∧ μ' b = some L) := by
          intro b L hb
          by_cases h1 : b = (Hs j).size
          · subst h1; rw [e1] at hb; exact .inl ⟨rfl, hb⟩
          · by_cases h2 : b = (Hs ops.size).size
            · subst h2; rw [e2] at hb; simp at hb
            · rw [e3 b h1 h2] at hb; exact .inr ⟨h1, h2, hb⟩
        rcases back b L hb with ⟨g1, g2⟩ | ⟨g1, g2, g3⟩ <;> rcases back b' L' hb' with ⟨g1', g2'⟩ | ⟨g1', g2', g3'⟩
        · omega
        · exact absurd (k2.inj _ _ _ _ g2 g3' hl).symm g2'
        · exact absurd (k2.inj _ _ _ _ g3 g2' hl) g2
        · exact k2.inj _ _ _ _ g3 g3' hl
      · by_cases h1 : b = (Hs j).size
        · subst h1; rw [e1] at hb; exact k2.low _ _ hb
        · by_cases h2 : b = (Hs ops.size).size
          · subst h2; rw [e2] at hb; simp at hb
          · rw [e3 b h1 h2] at hb; exact k2.low _ _ hb
      · by_cases h1 : b = (Hs j).size
        · subst h1; rw [e1] at hb; exact k2.apart _ _ hb
        · by_cases h2 : b = (Hs ops.size).size
          · subst h2; rw [e2] at hb; simp at hb
          · rw [e3 b h1 h2] at hb; exact k2.apart _ _ hb
      · exact (I.st.glob g cs hg).ext hext
    refine ⟨μ2, I.cl.set r, by rw [Act.put_size]; exact I.size, by rw [Act.put_defs]; exact I.defs, I.qle, I.effsSame hnot, hst, I.slots' D r hext hres hset, fun b => ?_,
      I.ext.trans ⟨hext, k3.os, k3.tape, k3.output⟩⟩
    by_cases h1 : b = (Hs j).size
    · subst h1
      refine ⟨fun _ => .inr ⟨h0j, hbjN, ?_⟩, fun _ => by rw [e1]; exact hμN⟩
      rw [hcrj]; exact set_same I.cl r
    · by_cases h2 : b = (Hs ops.size).size
      · subst h2
        refine ⟨fun h => absurd e2 h, fun h => ?_⟩
        rcases h with h | ⟨_, h, _⟩
        · have := D.lt0 h; omega
        · omega
      · rw [e3 b h1 h2, hdom' b h2, I.dom]
        refine or_congr Iff.rfl ⟨fun ⟨g1, g2, g3⟩ => ⟨g1, g2, ?_⟩, fun ⟨g1, g2, g3⟩ => ⟨g1, g2, ?_⟩⟩
        · rw [D.keepL r.lt g2 g1 (by rw [hsz1]; omega)]; exact g3
        · rw [D.keepL r.lt g2 g1 (by rw [hsz1]; omega)] at g3; exact g3

/-- An operation that may change boxes. -/
theorem Inv.loud (D : Dr P cx cf base mask m ops E Hs ws μs) (I : Inv cx base mask m ops E Hs ws μs listed a w μ q) (r : Rdy ops listed j o) (hw : wantT ops mask (E j) o.guard = some true) (he : isEff o.op = true)
    (hord : ∀ k ok, ops[k]? = some ok → isEff ok.op = true → (k < j → ordered ops k j = true) ∧ (j < k → ordered ops j k = true)) {v : T}
    (hx : Exec cx cf mask (E j) (Hs j) o.op v (Hs (j + 1))) (hset : (E j).dst mask o.dst v = some (E (j + 1))) :
    Ran P (fun c w' => ∃ μ', Inv cx base mask m ops E Hs ws μs (listed.setIfInBounds j true) (a.put o.dst c) w' μ' (fun _ => j + 1)) ((execOp a.eval o).run P w) := by
  have hej : EffW mask ops E j := ⟨o, r.op, he, hw⟩
  have hbefore : ∀ k, EffW mask ops E k → k < j → listed.getD k false = true := by
    rintro k ⟨ok, hok, hek, _⟩ hlt
    exact r.before k ((hord k ok hok hek).1 hlt)
  have hafter : ∀ k, EffW mask ops E k → j < k → listed.getD k false = false := by
    rintro k ⟨ok, hok, hek, _⟩ hlt
    exact r.behind k ((hord k ok hok hek).2 hlt)
  have hjn := r.lt
  have hsz : (Hs j).size ≤ (Hs (j + 1)).size := D.mono j hjn
  have hszN : (Hs (j + 1)).size ≤ (Hs ops.size).size := size_mono D.mono (show j + 1 ≤ ops.size from hjn) (Nat.le_refl _)
  have h0j : (Hs 0).size ≤ (Hs j).size := size_mono D.mono (Nat.zero_le _) (Nat.le_of_lt hjn)
  have hcont : ∀ b, b < (Hs j).size → (PH Hs ops.size q).get b = (Hs j).get b := by
    intro b hb
    have hbn : b < (Hs ops.size).size := by omega
    rw [D.phGet (I.qle _) hbn]
    have hcr : crN Hs b ops.size ≤ j := (crN_iff D.mono hbn (Nat.le_of_lt hjn)).1 hb
    rcases Nat.le_total (max (q b) (crN Hs b ops.size)) j with hle | hge
    · refine (get_between D.mono hle fun k hk1 hk2 => ?_).symm
      have hbk : b < (Hs k).size := (crN_iff D.mono hbn (by omega)).2 (by omega)
      refine D.same (by omega) hbk fun hek hsv => ?_
      have := (I.effs k b hek hbk hsv).1 (hbefore k hek hk2)
      omega
    · refine get_between D.mono hge fun k hk1 hk2 => ?_
      have hqn := I.qle b
      have hbk : b < (Hs k).size := (crN_iff D.mono hbn (by omega)).2 (by omega)
      refine D.same (by omega) hbk fun hek hsv => ?_
      have hl := (I.effs k b hek hbk hsv).2 (by omega)
      rcases Nat.eq_or_lt_of_le hk1 with h | h
      · subst h; rw [r.not] at hl; simp at hl
      · rw [hafter k hek h] at hl; simp at hl
  have hgap : ∀ b L, μ b = some L → b < (Hs j).size ∨ (Hs (j + 1)).size ≤ b := by
    intro b L hb
    rcases Nat.lt_or_ge b (Hs j).size with h | h
    · exact .inl h
    · right
      rcases Nat.lt_or_ge b (Hs (j + 1)).size with h2 | h2
      · exfalso
        have hbn : b < (Hs ops.size).size := by omega
        rcases (I.dom b).1 (by rw [hb]; simp) with g | ⟨_, _, g⟩
        · have := D.lt0 g; omega
        · rw [(D.made hjn hbn).2 ⟨h, h2⟩] at g
          simp only [Nat.add_sub_cancel] at g
          rw [r.not] at g; simp at g
      · exact h2
  have hdomb : ∀ b, μ b ≠ none → μs b ≠ none ∨ (Hs 0).size ≤ b := fun b hb => by
    rcases (I.dom b).1 hb with g | ⟨g, _⟩
    · exact .inl g
    · exact .inr g
  -- the later boxes are kept apart
  let μc : Mu := ⟨fun b => if b < (Hs j).size then μ b else none, fun i => μ.res i ∨ ∃ b L, (Hs j).size ≤ b ∧ μ b = some L ∧ L.blk = i⟩
  have c1 : ∀ b, b < (Hs j).size → μc b = μ b := fun b hb => by simp [μc, hb]
  have c2 : ∀ b L, μc b = some L → b < (Hs j).size ∧ μ b = some L := by
    intro b L hb
    by_cases h : b < (Hs j).size
    · rw [c1 b h] at hb; exact ⟨h, hb⟩
    · simp [μc, h] at hb
  have c3 : ∀ i, InMu μc i → InMu μ i := by
    rintro i (⟨b, L, hb, hl⟩ | hr | ⟨b, L, hb, hL, hl⟩)
    · exact .inl ⟨b, L, (c2 b L hb).2, hl⟩
    · exact .inr hr
    · exact .inl ⟨b, L, hL, hl⟩
  have c4 : ∀ b L, b < (Hs j).size → μ b = some L → μc b = some L := fun b L hb hL => by rw [c1 b hb]; exact hL
  have sc : St cx base w.heap μc (Hs j) := by
    refine ⟨D.wf j (Nat.le_of_lt hjn), I.st.fit, fun b L hb => ?_, fun b b' L L' hb hb' hl => ?_, fun b L hb => ?_, fun b L hb => ?_, fun i hr => ?_, fun g cs hg => ?_⟩
    · obtain ⟨h1, h2⟩ := c2 b L hb
      obtain ⟨x, hx, hok⟩ := I.st.box b L h2
      rw [hcont b h1] at hx
      exact ⟨x, hx, hok.conv (D.low2 j (Nat.le_of_lt hjn) b x (hdomb b (by rw [h2]; simp)) hx) c4 c3⟩
    · exact I.st.inj b b' L L' (c2 b L hb).2 (c2 b' L' hb').2 hl
    · exact I.st.low b L (c2 b L hb).2
    · rintro (hr | ⟨b', L', hb', hL', hl⟩)
      · exact I.st.apart b L (c2 b L hb).2 hr
      · have := I.st.inj b' b L' L hL' (c2 b L hb).2 hl
        have := (c2 b L hb).1
        omega
    · rcases hr with hr | ⟨b, L, _, hL, hl⟩
      · exact I.st.resLt i hr
      · rw [← hl]; exact I.st.lt hL
    · have hgl := I.st.glob g cs hg
      refine hgl.conv (n := 0) ?_ (fun b L hb => by omega) c3
      obtain ⟨_, _, _, _, _, _, _, _, _, hsh, _⟩ := hgl.inv_tptr
      exact .tptr _ fun u hu => (hsh u hu).2.low 0
  have rc : RelE w.heap μc mask (rEnv mask (E j) (o.looksAt ops)) a.tmps := by
    intro s u hu
    refine (I.relE D r s u hu).conv (n := (Hs j).size) ?_ c4 c3
    rw [rEnv_get] at hu
    split at hu
    · exact D.low1 j (Nat.le_of_lt hjn) s u hu
    · simp at hu
  have hx' := hx.congr (e' := rEnv mask (E j) (o.looksAt ops)) fun x hx => opnd_rEnv hx
  refine (exec_ran D.tys D.ck sc rc hx').mono fun c w' hc => ?_
  obtain ⟨⟨μ', k1, k2, k3, k4⟩, _⟩ := hc
  let μ2 : Mu := ⟨fun b => if b < (Hs (j + 1)).size then μ' b else μ b, μ.res⟩
  have d1 : ∀ b, b < (Hs (j + 1)).size → μ2 b = μ' b := fun b hb => by simp [μ2, hb]
  have d2 : ∀ b, (Hs (j + 1)).size ≤ b → μ2 b = μ b := fun b hb => by
    have : ¬ b < (Hs (j + 1)).size := by omega
    simp [μ2, this]
  have hres' : μ'.res = μc.res := k3.ext.res
  have hlate : ∀ b L, (Hs (j + 1)).size ≤ b → μ b = some L → μ'.res L.blk := by
    intro b L hb hL
    rw [hres']
    exact .inr ⟨b, L, by omega, hL, rfl⟩
  have d3 : ∀ i, InMu μ2 i → InMu μ' i := by
    rintro i (⟨b, L, hb, hl⟩ | hr)
    · by_cases h : b < (Hs (j + 1)).size
      · rw [d1 b h] at hb; exact .inl ⟨b, L, hb, hl⟩
      · rw [d2 b (by omega)] at hb
        right; rw [← hl]; exact hlate b L (by omega) hb
    · right; rw [hres']; exact .inl hr
  have hlt' : ∀ b L, μ' b = some L → b < (Hs (j + 1)).size := fun b L hb => k2.get_lt hb
  have d4 : ∀ b L, b < (Hs (j + 1)).size → μ' b = some L → μ2 b = some L := fun b L hb hL => by rw [d1 b hb]; exact hL
  have hext : Ext w.heap μ w'.heap μ2 := by
    refine ⟨k3.ext.size, fun i hi hn => ?_, fun b L hb => ?_, rfl, fun i hi hr => k3.ext.kept i hi (.inl hr)⟩
    · obtain ⟨g1, g2⟩ := k3.ext.old i hi fun h => hn (c3 i h)
      exact ⟨g1, fun h => g2 (d3 i h)⟩
    · rcases hgap b L hb with h | h
      · obtain ⟨L', hL', hor⟩ := k3.ext.mu b L (c4 b L h hb)
        exact ⟨L', d4 b L' (by omega) hL', hor⟩
      · exact ⟨L, by rw [d2 b h]; exact hb, .inl rfl⟩
  have hst : St cx base w'.heap μ2 (PH Hs ops.size (fun _ => j + 1)) := by
    have split2 : ∀ b L, μ2 b = some L → (b < (Hs (j + 1)).size ∧ μ' b = some L) ∨ ((Hs (j + 1)).size ≤ b ∧ μ b = some L) := by
      intro b L hb
      by_cases h : b < (Hs (j + 1)).size
      · rw [d1 b h] at hb; exact .inl ⟨h, hb⟩
      · rw [d2 b (by omega)] at hb; exact .inr ⟨by omega, hb⟩
    refine ⟨PH_wf _ _ _, k2.fit, fun b L hb => ?_, fun b b' L L' hb hb' hl => ?_, fun b L hb => ?_, fun b L hb hr => ?_, fun i hr => ?_, fun g cs hg => (I.st.glob g cs hg).ext hext⟩
    · rcases split2 b L hb with ⟨h1, h2⟩ | ⟨h1, h2⟩
      · obtain ⟨x, hx, hok⟩ := k2.box b L h2
        have hbn : b < (Hs ops.size).size := by omega
        have hcr : crN Hs b ops.size ≤ j + 1 := (crN_iff D.mono hbn (show j + 1 ≤ ops.size from hjn)).1 h1
        refine ⟨x, ?_, hok.conv (hok.low hlt') d4 d3⟩
        rw [D.phGet (q := fun _ => j + 1) (show j + 1 ≤ ops.size from hjn) hbn, show max (j + 1) (crN Hs b ops.size) = j + 1 by omega]
        exact hx
      · obtain ⟨x, hx, hok⟩ := I.st.box b L h2
        have hbn : b < (Hs ops.size).size := I.st.get_lt h2
        have hcr : ¬ crN Hs b ops.size ≤ j + 1 := fun h => by
          have := (crN_iff D.mono hbn (show j + 1 ≤ ops.size from hjn)).2 h; omega
        refine ⟨x, ?_, hok.ext hext ?_⟩
        · rw [D.phGet (I.qle _) hbn] at hx
          rw [D.phGet (q := fun _ => j + 1) (show j + 1 ≤ ops.size from hjn) hbn, show max (j + 1) (crN Hs b ops.size) = crN Hs b ops.size by omega]
          rw [← hx]
          refine (get_between D.mono (by omega) fun k hk1 hk2 => ?_).symm
          have hqn := I.qle b
          have hcrn := crN_le Hs b ops.size
          have hbk : b < (Hs k).size := (crN_iff D.mono hbn (by omega)).2 (by omega)
          refine D.same (by omega) hbk fun hek hsv => ?_
          have hl := (I.effs k b hek hbk hsv).2 (by omega)
          rw [hafter k hek (by omega)] at hl; simp at hl
        · exact k3.ext.kept L.blk (I.st.lt h2) (.inr ⟨b, L, by omega, h2, rfl⟩)
    · rcases split2 b L hb with ⟨h1, h2⟩ | ⟨h1, h2⟩ <;> rcases split2 b' L' hb' with ⟨h1', h2'⟩ | ⟨h1', h2'⟩
      · exact k2.inj b b' L L' h2 h2' hl
      · exact absurd (by rw [hl]; exact hlate b' L' h1' h2') (k2.apart b L h2)
      · exact absurd (by rw [← hl]; exact hlate b L h1 h2) (k2.apart b' L' h2')
      · exact I.st.inj b b' L L' h2 h2' hl
    · rcases split2 b L hb with ⟨h1, h2⟩ | ⟨h1, h2⟩
      · exact k2.low b L h2
      · exact I.st.low b L h2
    · rcases split2 b L hb with ⟨h1, h2⟩ | ⟨h1, h2⟩
      · exact k2.apart b L h2 (by rw [hres']; exact .inl hr)
      · exact I.st.apart b L h2 hr
    · exact Nat.lt_of_lt_of_le (I.st.resLt i hr) k3.ext.size
  have hval : RelV w'.heap μ2 v c := k1.conv (k1.low hlt') d4 d3
  refine ⟨μ2, I.cl.set r, by rw [Act.put_size]; exact I.size, by rw [Act.put_defs]; exact I.defs, fun _ => hjn, fun k b hk _ _ => ?_, hst, I.slots' D r hext hval hset, fun b => ?_,
    I.ext.trans ⟨hext, k3.os, k3.tape, k3.output⟩⟩
  · rcases Nat.lt_trichotomy k j with h | h | h
    · rw [getD_set_ne false (by omega), hbefore k hk h]; simp; omega
    · subst h; rw [set_same I.cl r]; simp
    · rw [getD_set_ne false (by omega), hafter k hk h]; simp; omega
  · by_cases h1 : b < (Hs (j + 1)).size
    · rw [d1 b h1]
      have hbn : b < (Hs ops.size).size := by omega
      by_cases h2 : b < (Hs j).size
      · have : μ' b ≠ none ↔ μ b ≠ none := by
          constructor
          · intro hb
            rcases k4.2.1 b hb with g | g
            · rwa [c1 b h2] at g
            · omega
          · intro hb
            obtain ⟨L, hL⟩ := Option.ne_none_iff_exists'.1 hb
            obtain ⟨L', hL', _⟩ := k3.ext.mu b L (c4 b L h2 hL)
            rw [hL']; simp
        rw [this, I.dom]
        refine or_congr Iff.rfl ⟨fun ⟨g1, g2, g3⟩ => ⟨g1, g2, ?_⟩, fun ⟨g1, g2, g3⟩ => ⟨g1, g2, ?_⟩⟩
        · rw [D.keepL hjn g2 g1 (by omega)]; exact g3
        · rw [D.keepL hjn g2 g1 (by omega)] at g3; exact g3
      · refine ⟨fun _ => .inr ⟨by omega, hbn, ?_⟩, fun _ => k4.2.2 b (by omega) h1⟩
        rw [(D.made hjn hbn).2 ⟨by omega, h1⟩]
        exact set_same I.cl r
    · rw [d2 b (by omega), I.dom]
      refine or_congr Iff.rfl ⟨fun ⟨g1, g2, g3⟩ => ⟨g1, g2, ?_⟩, fun ⟨g1, g2, g3⟩ => ⟨g1, g2, ?_⟩⟩
      · rw [D.keepL hjn g2 g1 (by omega)]; exact g3
      · rw [D.keepL hjn g2 g1 (by omega)] at g3; exact g3


theorem store_at {h h' h2 : H} {t : Ty} {b ep i jj : Nat} {v : T} (hh : h.store t (.ptr b ep i jj) v = some h') (hw : h.boxes.length = h.size) (hw2 : h2.boxes.length = h2.size) (hg : h2.get b = h.get b) :
    h'.size = h.size ∧ (∀ c, c ≠ b → h'.get c = h.get c) ∧ sameVer h h' b = false ∧ b < h.size ∧ ∃ h2', h2.store t (.ptr b ep i jj) v = some h2' ∧ h2'.size = h2.size ∧ h2'.boxes.length = h2'.size ∧ h2'.get b = h'.get b ∧ ∀ c, c ≠ b → h2'.get c = h2.get c := by
  have hh : chk (Nat.beq (lenN v.cells) t.size) (bnd (h.get b) fun x => @Box.rec (fun _ => Option H) (fun sz ep' ver exact it elems =>
      chk (Nat.beq ep' ep) (@Bool.rec (fun _ => Option H) (bnd (nthD elems i) fun e => bnd (setIn e jj v.cells) fun e' => bnd (setNth elems i e') fun es =>
        bnd (normNat (Nat.succ ver)) fun ver' => h.put b ⟨sz, ep', ver', exact, false, es⟩) none it)) x) = some h' := hh
  obtain ⟨c1, hh⟩ := chk_eq_some.1 hh
  replace hh := bnd_eq_some.1 hh; obtain ⟨⟨sz, ep', ver, exact', it, elems⟩, c2, hh⟩ := hh
  obtain ⟨c3, hh⟩ := chk_eq_some.1 hh
  cases it with
  | true => simp at hh
  | false =>
    replace hh := bnd_eq_some.1 hh; obtain ⟨e, c4, hh⟩ := hh
    replace hh := bnd_eq_some.1 hh; obtain ⟨e', c5, hh⟩ := hh
    replace hh := bnd_eq_some.1 hh; obtain ⟨es, c6, hh⟩ := hh
    replace hh := bnd_eq_some.1 hh; obtain ⟨ver', c7, hh⟩ := hh
    have hv : ver' = ver + 1 := by rw [normNat_eq] at c7; simpa using c7.symm
    obtain ⟨p1, p2, p3, p4⟩ := put_get hh hw
    have hb2 : b < h2.size := H.get_lt (hg.trans c2)
    have hput : ∃ h2', h2.put b ⟨sz, ep', ver', exact', false, es⟩ = some h2' := ⟨_, H.put_eq_some.2 ⟨hb2, by omega, rfl⟩⟩
    obtain ⟨h2', hput⟩ := hput
    obtain ⟨g1, g2, g3, g4⟩ := put_get hput hw2
    refine ⟨p1, p4, ?_, H.get_lt c2, h2', ?_, g1, g2, by rw [g3, p3], g4⟩
    · unfold sameVer
      rw [c2, p3]
      show Nat.beq ver ver' = false
      rw [hv]
      cases hn : Nat.beq ver (ver + 1) with
      | false => rfl
      | true => have := Nat.eq_of_beq_eq_true hn; omega
    · show chk (Nat.beq (lenN v.cells) t.size) (bnd (h2.get b) fun x => @Box.rec (fun _ => Option H) (fun sz ep' ver exact it elems =>
        chk (Nat.beq ep' ep) (@Bool.rec (fun _ => Option H) (bnd (nthD elems i) fun e => bnd (setIn e jj v.cells) fun e' => bnd (setNth elems i e') fun es =>
          bnd (normNat (Nat.succ ver)) fun ver' => h2.put b ⟨sz, ep', ver', exact, false, es⟩) none it)) x) = some h2'
      rw [hg, c2]
      simp only [c1, c3, c4, c5, c6, c7, chk_true, bnd_some, hput]

/-- What a store of the trace does. -/
theorem Dr.storeW (D : Dr P cx cf base mask m ops E Hs ws μs) {k : Nat} {ok : Oper} (ho : ops[k]? = some ok) (hst : isStore ok.op = true) (hek : EffW mask ops E k) :
    ∃ b, StW cx mask ops E k b ∧ b < (Hs k).size ∧ (Hs (k + 1)).size = (Hs k).size ∧ (∀ c, c ≠ b → (Hs (k + 1)).get c = (Hs k).get c) ∧ sameVer (Hs k) (Hs (k + 1)) b = false ∧
      ∀ h2 : H, h2.boxes.length = h2.size → h2.get b = (Hs k).get b → ∃ h2', opH ok.op cx mask (E k) h2 = some (.val .undef h2') ∧ h2'.size = h2.size ∧ h2'.boxes.length = h2'.size ∧ h2'.get b = (Hs (k + 1)).get b ∧ ∀ c, c ≠ b → h2'.get c = h2.get c := by
  obtain ⟨o', ho', _, hw⟩ := hek
  rw [ho] at ho'; simp only [Option.some.injEq] at ho'; subst ho'
  have hk : k < ops.size := (Array.getElem?_eq_some_iff.1 ho).1
  rcases stepOp_inv (D.tr.step k _ ho) with ⟨hw', _⟩ | ⟨_, v, hx, _⟩
  · rw [hw] at hw'; simp at hw'
  · cases hop : ok.op with
    | store t x y =>
      rw [hop] at hx
      rcases hx with hx | ⟨f, args, hx, _⟩
      · have hx : (bnd (cx.ty t) fun ty => bnd (opnd cx mask (E k) x) fun a => bnd (opnd cx mask (E k) y) fun v => chk v.good (bnd ((Hs k).store ty a v) fun h' => some (Did.val .undef h'))) = some (.val v (Hs (k + 1))) := hx
        replace hx := bnd_eq_some.1 hx; obtain ⟨ty, c1, hx⟩ := hx
        replace hx := bnd_eq_some.1 hx; obtain ⟨pa, c2, hx⟩ := hx
        replace hx := bnd_eq_some.1 hx; obtain ⟨pv, c3, hx⟩ := hx
        obtain ⟨c4, hx⟩ := chk_eq_some.1 hx
        replace hx := bnd_eq_some.1 hx; obtain ⟨h', c5, hx⟩ := hx
        simp only [Option.some.injEq, Did.val.injEq] at hx
        obtain ⟨rfl, rfl⟩ := hx
        cases pa with
        | ptr b ep i jj =>
          have hb : ∀ h2 : H, h2.boxes.length = h2.size → h2.get b = (Hs k).get b → _ := fun h2 hw2 hg => store_at c5 (D.wf k (Nat.le_of_lt hk)) hw2 hg
          obtain ⟨s1, s2, s3, s4, _⟩ := hb (Hs k) (D.wf k (Nat.le_of_lt hk)) rfl
          refine ⟨b, ⟨ok, t, x, y, ho, hop, hw, by rw [c2]; rfl⟩, s4, s1, s2, s3, fun h2 hw2 hg => ?_⟩
          obtain ⟨_, _, _, _, h2', g1, g2⟩ := hb h2 hw2 hg
          refine ⟨h2', ?_, g2⟩
          show (bnd (cx.ty t) fun ty => bnd (opnd cx mask (E k) x) fun a => bnd (opnd cx mask (E k) y) fun v => chk v.good (bnd (h2.store ty a v) fun h' => some (Did.val .undef h'))) = _
          rw [c1, c2, c3]
          simp only [bnd_some, c4, chk_true, g1]
        | _ => simp [H.store] at c5
      · exact absurd hx (nc_other (fun c hq => by simp at hq) f args)
    | _ => rw [hop] at hst; simp [isStore] at hst

/-- A store, wherever the other stores stand. -/
theorem Inv.loudS (D : Dr P cx cf base mask m ops E Hs ws μs) (I : Inv cx base mask m ops E Hs ws μs listed a w μ q) (r : Rdy ops listed j o) (hw : wantT ops mask (E j) o.guard = some true) (hs : isStore o.op = true)
    {v : T} (hx : Exec cx cf mask (E j) (Hs j) o.op v (Hs (j + 1))) (hset : (E j).dst mask o.dst v = some (E (j + 1))) :
    Ran P (fun c w' => ∃ μ' q', Inv cx base mask m ops E Hs ws μs (listed.setIfInBounds j true) (a.put o.dst c) w' μ' q') ((execOp a.eval o).run P w) := by
  have he : isEff o.op = true := by cases hop : o.op <;> rw [hop] at hs <;> simp [isStore] at hs <;> rfl
  have hej : EffW mask ops E j := ⟨o, r.op, he, hw⟩
  have hjn := r.lt
  obtain ⟨b0, hS, hb0, hsz, hoth, hver, hrun⟩ := D.storeW r.op hs hej
  have hb0n : b0 < (Hs ops.size).size := Nat.lt_of_lt_of_le hb0 (size_mono D.mono (Nat.le_of_lt hjn) (Nat.le_refl _))
  -- changes of the box ahead and behind
  have before : ∀ k, EffW mask ops E k → k < j → sameVer (Hs k) (Hs (k + 1)) b0 = false → listed.getD k false = true := by
    intro k hek hlt hsv
    rcases D.tr.both j k b0 hS hek hlt with h | h
    · rw [hsv] at h; simp at h
    · exact r.before k h
  have after : ∀ k, EffW mask ops E k → j < k → sameVer (Hs k) (Hs (k + 1)) b0 = false → listed.getD k false = false := by
    intro k hek hlt hsv
    have hek' := hek
    obtain ⟨ok, hok, hke, _⟩ := hek'
    rcases D.pairs j k o ok r.op hok hlt with ⟨_, h⟩ | h
    · obtain ⟨bk, hSk, _, _, hothk, _⟩ := D.storeW hok (h he hke).2 hek
      have : bk = b0 := by
        rcases Nat.decEq bk b0 with hne | rfl
        · exfalso
          have hg := hothk b0 (Ne.symm hne)
          unfold sameVer at hsv
          rw [hg] at hsv
          cases hc : (Hs k).get b0 with
          | none => rw [hc] at hsv; simp at hsv
          | some x =>
            rw [hc] at hsv
            have hsv : Nat.beq x.ver x.ver = false := hsv
            simp at hsv
        · rfl
      subst this
      rcases D.tr.both k j bk hSk hej hlt with h | h
      · rw [hver] at h; simp at h
      · exact r.behind k h
    · exact r.behind k h
  have hcr : crN Hs b0 ops.size ≤ j := (crN_iff D.mono hb0n (Nat.le_of_lt hjn)).1 hb0
  have hph : (PH Hs ops.size q).get b0 = (Hs j).get b0 := by
    rw [D.phGet (I.qle _) hb0n]
    have hqn := I.qle b0
    rcases Nat.le_total (max (q b0) (crN Hs b0 ops.size)) j with hle | hge
    · refine (get_between D.mono hle fun k hk1 hk2 => ?_).symm
      have hbk : b0 < (Hs k).size := (crN_iff D.mono hb0n (by omega)).2 (by omega)
      refine D.same (by omega) hbk fun hek hsv => ?_
      have := (I.effs k b0 hek hbk hsv).1 (before k hek hk2 hsv)
      omega
    · refine get_between D.mono hge fun k hk1 hk2 => ?_
      have hbk : b0 < (Hs k).size := (crN_iff D.mono hb0n (by omega)).2 (by omega)
      refine D.same (by omega) hbk fun hek hsv => ?_
      have hl := (I.effs k b0 hek hbk hsv).2 (by omega)
      rcases Nat.eq_or_lt_of_le hk1 with h | h
      · subst h; rw [r.not] at hl; simp at hl
      · rw [after k hek h hsv] at hl; simp at hl
  obtain ⟨h2', hop2, g1, g2, g3, g4⟩ := hrun (PH Hs ops.size q) (PH_wf _ _ _) hph
  have hv : v = .undef := by
    obtain ⟨hj', hop1, _⟩ := hrun (Hs j) (D.wf j (Nat.le_of_lt hjn)) rfl
    rcases hx with hx | ⟨f, args, hx, _⟩
    · rw [hop1] at hx; simp only [Option.some.injEq, Did.val.injEq] at hx; exact hx.1.symm
    · rw [hop1] at hx; simp at hx
  subst hv
  have hcg : ∀ x ∈ o.op.operands, opnd cx mask (E j) x = opnd cx mask (rEnv mask (E j) (o.looksAt ops)) x := fun x hx => opnd_rEnv hx
  rw [opH_congr hcg] at hop2
  refine ((opH_val D.tys I.st (I.relE D r) hop2).ran).mono fun c w' hc => ?_
  obtain ⟨μ', k1, k2, k3, k4⟩ := hc
  refine ⟨μ', fun b => if b = b0 then j + 1 else q b, I.cl.set r, by rw [Act.put_size]; exact I.size, by rw [Act.put_defs]; exact I.defs, fun b => ?_, fun k b hk hbk hsv => ?_,
    k2.congr (PH_wf _ _ _) fun b L hb => ?_, I.slots' D r k3.ext k1 hset, I.domSame D r hsz fun b => ⟨fun hb => ?_, fun hb => ?_⟩, I.ext.trans k3⟩
  · show (if b = b0 then j + 1 else q b) ≤ ops.size
    have := I.qle b
    split <;> omega
  · show _ ↔ k < (if b = b0 then j + 1 else q b)
    by_cases hbb : b = b0
    · subst hbb
      rw [if_pos rfl]
      rcases Nat.lt_trichotomy k j with h | h | h
      · rw [getD_set_ne false (by omega), before k hk h hsv]; simp; omega
      · subst h; rw [set_same I.cl r]; simp
      · rw [getD_set_ne false (by omega), after k hk h hsv]; simp; omega
    · rw [if_neg hbb]
      have hkj : j ≠ k := by
        rintro rfl
        have hg := hoth b hbb
        unfold sameVer at hsv
        rw [hg] at hsv
        cases hc : (Hs j).get b with
        | none => rw [hc] at hsv; simp at hsv
        | some x =>
          rw [hc] at hsv
          have hsv : Nat.beq x.ver x.ver = false := hsv
          simp at hsv
      rw [getD_set_ne false hkj]
      exact I.effs k b hk hbk hsv
  · have hbn : b < (Hs ops.size).size := by
      have := k2.get_lt hb
      rw [g1] at this; exact this
    have hq' : (if b = b0 then j + 1 else q b) ≤ ops.size := by have := I.qle b; split <;> omega
    rw [D.phGet (q := fun b => if b = b0 then j + 1 else q b) hq' hbn]
    by_cases hbb : b = b0
    · subst hbb
      rw [if_pos rfl, g3, show max (j + 1) (crN Hs b ops.size) = j + 1 by omega]
    · rw [if_neg hbb, g4 b hbb, D.phGet (I.qle _) hbn]
  · rcases k4.2.1 b hb with h | h
    · exact h
    · rw [g1] at h; omega
  · obtain ⟨L, hL⟩ := Option.ne_none_iff_exists'.1 hb
    obtain ⟨L', hL', _⟩ := k3.ext.mu b L hL
    rw [hL']; simp

theorem Inv.step (D : Dr P cx cf base mask m ops E Hs ws μs) (I : Inv cx base mask m ops E Hs ws μs listed a w μ q) (hj : j ∈ Region.ready .any ops listed) :
    wpOp P ops Q j (fun a' w' => ∃ μ' q', Inv cx base mask m ops E Hs ws μs (listed.setIfInBounds j true) a' w' μ' q') a w := by
  obtain ⟨o, r⟩ := rdy I.cl hj
  unfold wpOp
  simp only [r.op]
  rcases stepOp_inv (D.tr.step j o r.op) with ⟨hw, hset, hH⟩ | ⟨hw, v, hx, hset⟩
  · simp only [I.want D r hw, Bool.false_eq_true, if_false]
    exact ⟨μ, q, I.skip D r hw hset hH⟩
  · simp only [I.want D r hw, if_true]
    left
    cases he : isEff o.op with
    | false => exact Ran.wp (I.quiet D r hw he hx hset) fun c w' hc => by obtain ⟨μ', h⟩ := hc; exact ⟨μ', q, h⟩
    | true =>
      cases hs : isStore o.op with
      | true => exact Ran.wp (I.loudS D r hw hs hx hset) fun c w' hc => hc
      | false =>
        refine Ran.wp (I.loud D r hw he (fun k ok hok hke => ⟨fun hlt => ?_, fun hlt => ?_⟩) hx hset) fun c w' hc => by obtain ⟨μ', h⟩ := hc; exact ⟨μ', _, h⟩
        · rcases D.pairs k j ok o hok r.op hlt with ⟨_, h⟩ | h
          · have := (h hke he).2; rw [hs] at this; simp at this
          · exact h
        · rcases D.pairs j k o ok r.op hok hlt with ⟨_, h⟩ | h
          · have := (h he hke).1; rw [hs] at this; simp at this
          · exact h

/-! ### the whole -/

def unl (listed : Array Bool) : Nat := (listed.toList.filter fun b => !b).length

theorem filter_set : ∀ (l : List Bool) (j : Nat), l[j]? = some false → ((l.set j true).filter fun b => !b).length + 1 = (l.filter fun b => !b).length := by
  intro l
  induction l with
  | nil => intro j h; simp at h
  | cons x l ih =>
    intro j h
    cases j with
    | zero => simp at h; subst h; simp
    | succ j =>
      simp at h
      have := ih j h
      cases x <;> simp [List.set_cons_succ] <;> omega

theorem unl_set (h : listed.getD j true = false) : unl (listed.setIfInBounds j true) + 1 = unl listed := by
  have hlt : j < listed.size := by
    rcases Nat.lt_or_ge j listed.size with h' | h'
    · exact h'
    · simp [Array.getElem?_eq_none h'] at h
  unfold unl
  rw [Array.toList_setIfInBounds]
  refine filter_set _ _ ?_
  simp [hlt] at h
  simp [hlt, h]

theorem all_listed (D : Dr P cx cf base mask m ops E Hs ws μs) (c : Cl ops listed) (hr : Region.ready .any ops listed = []) : ∀ k, k < ops.size → listed.getD k false = true := by
  intro k
  induction k using Nat.strongRecOn with
  | _ k ih =>
    intro hk
    cases hb : listed.getD k false with
    | true => rfl
    | false =>
      have hko : ops[k]? = some ops[k] := by simp [hk]
      have : k ∈ Region.ready .any ops listed := by
        refine mem_ready.2 ⟨?_, ops[k], hko, fun e he hbd => ?_⟩
        · have : k < listed.size := by rw [c.size]; exact hk
          simp [this] at hb ⊢; exact hb
        · have hlt := D.back k _ hko e he hbd
          exact ih e.on hlt (by omega)
      rw [hr] at this
      simp at this

theorem Inv.final (D : Dr P cx cf base mask m ops E Hs ws μs) (I : Inv cx base mask m ops E Hs ws μs listed a w μ q) (hall : ∀ k, k < ops.size → listed.getD k false = true) :
    St cx base w.heap μ (Hs ops.size) ∧ RelE w.heap μ mask (E ops.size) a.tmps ∧ Dom μs μ (Hs 0).size (Hs ops.size).size := by
  refine ⟨I.st.congr (D.wf _ (Nat.le_refl _)) fun b L hb => ?_, fun s v hv => I.slots s v ?_, ?_⟩
  · have hbn := I.lt D hb
    rw [D.phGet (I.qle _) hbn]
    have hcr := crN_le Hs b ops.size
    have := I.qle b
    refine get_between D.mono (by omega) fun k hk1 hk2 => ?_
    have hbk : b < (Hs k).size := (crN_iff D.mono hbn (by omega)).2 (by omega)
    refine D.same hk2 hbk fun hek hsv => ?_
    have := (I.effs k b hek hbk hsv).1 (hall k hk2)
    omega
  · -- no writer behind the last
    have key : ∀ d, lwN ops listed s ops.size + d ≤ ops.size → (E (lwN ops listed s ops.size + d)).get mask s = (E (lwN ops listed s ops.size)).get mask s := by
      intro d
      induction d with
      | zero => intro _; rfl
      | succ d ih =>
        intro hd
        have hk : lwN ops listed s ops.size + d < ops.size := by omega
        have hko : ops[lwN ops listed s ops.size + d]? = some ops[lwN ops listed s ops.size + d] := by simp [hk]
        rw [← ih (by omega)]
        have hnot : ops[lwN ops listed s ops.size + d].dst ≠ some s := by
          intro hd'
          have := lwN_ge (n := ops.size) hk (hall _ hk) (by rw [hko]; exact hd')
          omega
        have hset : ∀ v e', (E (lwN ops listed s ops.size + d)).dst mask ops[lwN ops listed s ops.size + d].dst v = some e' → e'.get mask s = (E (lwN ops listed s ops.size + d)).get mask s := by
          intro v e' hh
          cases hdst : ops[lwN ops listed s ops.size + d].dst with
          | none => rw [hdst] at hh; have hh : some _ = some e' := hh; simp only [Option.some.injEq] at hh; rw [hh]
          | some t =>
            rw [hdst] at hh hnot
            have hne : s ≠ t := fun e => hnot (by rw [e])
            rw [Env.get_set (show Env.set mask _ t v = some e' from hh) s, if_neg hne]
        rcases stepOp_inv (D.tr.step _ _ hko) with ⟨_, hh, _⟩ | ⟨_, v, _, hh⟩
        · exact hset _ _ hh
        · exact hset _ _ hh
    have hle := lwN_le (ops := ops) (listed := listed) (s := s) ops.size
    have := key (ops.size - lwN ops listed s ops.size) (by omega)
    rw [show lwN ops listed s ops.size + (ops.size - lwN ops listed s ops.size) = ops.size by omega] at this
    rw [← this]; exact hv
  · refine ⟨size_mono D.mono (Nat.zero_le _) (Nat.le_refl _), fun b hb => ?_, fun b h1 h2 => ?_⟩
    · rcases (I.dom b).1 hb with h | ⟨h1, h2, _⟩
      · exact .inl h
      · exact .inr ⟨h1, h2⟩
    · refine (I.dom b).2 (.inr ⟨h1, h2, hall _ ?_⟩)
      have := D.cr0 h2 h1
      have := crN_le Hs b ops.size
      omega

theorem any_sound (D : Dr P cx cf base mask m ops E Hs ws μs)
    (hQ : ∀ a w μ, St cx base w.heap μ (Hs ops.size) → RelE w.heap μ mask (E ops.size) a.tmps → Dom μs μ (Hs 0).size (Hs ops.size).size → ExtW ws μs w μ → a.tmps.size = m → a.defers = [] → Q .normal a w) :
    ∀ (fuel : Nat) (listed : Array Bool) (a : Act) (w : World), unl listed ≤ fuel → (∃ μ q, Inv cx base mask m ops E Hs ws μs listed a w μ q) → wpAny P .any ops Q fuel listed a w := by
  have fin : ∀ (listed : Array Bool) (a : Act) (w : World), (∃ μ q, Inv cx base mask m ops E Hs ws μs listed a w μ q) → Region.ready .any ops listed = [] → Q .normal a w := by
    rintro listed a w ⟨μ, q, I⟩ hr
    obtain ⟨h1, h2, h3⟩ := I.final D (all_listed D I.cl hr)
    exact hQ a w μ h1 h2 h3 I.ext I.size I.defs
  intro fuel
  induction fuel with
  | zero =>
    intro listed a w hu hI
    have hr : Region.ready .any ops listed = [] := by
      cases hr : Region.ready .any ops listed with
      | nil => rfl
      | cons i rs =>
        have hi : i ∈ Region.ready .any ops listed := by rw [hr]; simp
        have := unl_set (mem_ready.1 hi).1
        omega
    exact ⟨hr, fin listed a w hI hr⟩
  | succ fuel ih =>
    intro listed a w hu hI
    refine ⟨fun hr => fin listed a w hI hr, fun i hi => ?_⟩
    obtain ⟨μ, q, I⟩ := hI
    have := unl_set (mem_ready.1 hi).1
    exact wpOp_mono (fun a' w' h => ih _ a' w' (by omega) h) (I.step D hi)

/-- The order of the text, carried out: the states on its way. -/
theorem chain {w0 : World} {μ0 : Mu} {h0 : H} {e : Env} {h h' : H} {e' : Env} (tys : TysOk P cx) (ck : CallOk P cx cf) (hd : DstOk m ops) {k : Nat} (ho : ops[k]? = some o) (hh : stepOp cx cf mask ops e h o = some (e', h'))
    (H0 : Here cx base mask m w0 μ0 h0 e h a w) : (∃ a' w', Here cx base mask m w0 μ0 h0 e' h' a' w') ∧ Grow h h' := by
  have H0' := H0
  obtain ⟨μ, s, r, x, dm, g, hm, hdf⟩ := H0'
  rcases stepOp_inv hh with ⟨hw, hset, rfl⟩ | ⟨hw, v, hx, hset⟩
  · exact ⟨⟨_, w, μ, s, RelE.put r .undef (fun s hs => by rw [hm]; exact hd k o s ho hs) hset, x, dm, g, by rw [Act.put_size]; exact hm, by rw [Act.put_defs]; exact hdf⟩, Grow.refl s.wf⟩
  · have hr := exec_ran (P := P) tys ck s r hx
    obtain ⟨c, w', hc⟩ := hr.some
    have h2 : Ran P (fun c w' => Here cx base mask m w0 μ0 h0 e' h' (a.put o.dst c) w') ((execOp a.eval o).run P w) :=
      H0.after (fun s hs => hd k o s ho hs) hset fun base μ s r => exec_ran tys ck s r hx
    obtain ⟨c2, w2, hc2⟩ := h2.some
    exact ⟨⟨_, _, hc2⟩, hc.2⟩

theorem draw_sound (hm : P.follows .mixedOrders = true) (tys : TysOk P cx) (ck : CallOk P cx cf) : DrawOk P cx cf drawB := by
  intro base mask m w0 μ0 h0 ops e e' h h' a w Q id hB hd hrun H0 hQ
  obtain ⟨E, Hs, q1, q2, q3, q4, q5, _, _, q8, q9, _, q11⟩ := runDraw_trace ops.toList 0 ⟨[], []⟩ e e' h h' (fun t => by simp) hrun
  simp only [Nat.zero_add, Array.length_toList] at q3 q4
  have tr : Trace cx cf mask ops E Hs := ⟨fun k o ho => q5 k o (Nat.zero_le _) ho, fun k k' b h1 h2 h3 => q8 k k' b (Nat.zero_le _) h1 h2 h3, fun k k' b h1 h2 h3 => q9 k k' b (Nat.zero_le _) h1 h2 h3, fun k k' b h1 h2 h3 => q11 k k' b (Nat.zero_le _) h1 h2 h3⟩
  obtain ⟨μs, s, r, x, dm, g, hma, hdf⟩ := H0
  subst q1 q2
  -- the text's order, from here on
  have way : ∀ k, k ≤ ops.size → ∃ a' w', Here cx base mask m w μs (Hs 0) (E k) (Hs k) a' w' := by
    intro k
    induction k with
    | zero => intro _; exact ⟨a, w, μs, s, r, ExtW.refl _ _, Dom.refl _ _, Grow.refl s.wf, hma, hdf⟩
    | succ k ih =>
      intro hk
      obtain ⟨a1, w1, H1⟩ := ih (by omega)
      have ho : ops[k]? = some ops[k] := by simp [show k < ops.size by omega]
      exact (chain tys ck hd ho (tr.step k _ ho) H1).1
  have grow : ∀ k, k < ops.size → Grow (Hs k) (Hs (k + 1)) := by
    intro k hk
    obtain ⟨a1, w1, H1⟩ := way k (by omega)
    have ho : ops[k]? = some ops[k] := by simp [hk]
    exact (chain tys ck hd ho (tr.step k _ ho) H1).2
  have D : Dr P cx cf base mask m ops E Hs { w with drawn := w.drawn + 1 } μs := by
    refine ⟨tys, ck, hd, tr, s, fun i j oi oj hi hj hij => drawB_pairs hB hi hj hij, fun j o ho => drawB_back hB ho, fun k hk sl v hv => ?_, fun k hk b y hb hy v hv => ?_, grow, fun k hk => ?_⟩
    · obtain ⟨a1, w1, μ1, s1, r1, _⟩ := way k hk
      exact (r1 sl v hv).low fun b L hb => s1.get_lt hb
    · obtain ⟨a1, w1, μ1, s1, r1, x1, d1, _⟩ := way k hk
      have hin : μ1 b ≠ none := by
        rcases hb with hb | hb
        · obtain ⟨L, hL⟩ := Option.ne_none_iff_exists'.1 hb
          obtain ⟨L', hL', _⟩ := x1.ext.mu b L hL
          rw [hL']; simp
        · exact d1.2.2 b hb (H.get_lt hy)
      obtain ⟨L, hL⟩ := Option.ne_none_iff_exists'.1 hin
      obtain ⟨z, hz, hok⟩ := s1.box b L hL
      rw [hy] at hz; simp only [Option.some.injEq] at hz; subst hz
      exact hok.low (fun b L hb => s1.get_lt hb) v hv
    · obtain ⟨a1, w1, μ1, s1, _⟩ := way k hk
      exact s1.wf
  have growN : ∀ k, k ≤ ops.size → Grow (Hs 0) (Hs k) := by
    intro k
    induction k with
    | zero => intro _; exact Grow.refl s.wf
    | succ k ih => intro hk; exact (ih (by omega)).trans (grow k (by omega))
  refine wp_region_any hm (any_sound D (fun a' w' μ' k1 k2 k3 k4 k5 k6 => ?_) ops.size _ a _ (by simp [unl]) ⟨μs, fun _ => 0, ?_⟩)
  · rw [q3] at k2
    rw [q4] at k1 k3
    have k4' : ExtW w μs w' μ' := ⟨k4.ext, k4.os, k4.tape, k4.output⟩
    exact hQ a' w' ⟨μ', k1, k2, x.trans k4', dm.trans (hp := w.heap) k3 k4'.ext, by have := growN ops.size (Nat.le_refl _); rw [q4] at this; exact g.trans this, k5, k6⟩
  · have hnone : ∀ k, (Array.replicate ops.size false).getD k false = false := by
      intro k
      rcases Nat.lt_or_ge k ops.size with h | h <;> simp [h]
    refine ⟨⟨by simp, fun j oj _ hl => ?_⟩, hma, hdf, fun _ => Nat.zero_le _, fun k b _ _ _ => ?_, ?_, fun sl v hv => ?_, fun b => ?_, ⟨Ext.refl _ _, rfl, rfl, rfl⟩⟩
    · rw [hnone] at hl; simp at hl
    · rw [hnone]; simp
    · refine s.congr (PH_wf _ _ _) fun b L hb => ?_
      have hlt := s.get_lt hb
      have hbn : b < (Hs ops.size).size := Nat.lt_of_lt_of_le hlt (size_mono D.mono (Nat.zero_le _) (Nat.le_refl _))
      rw [D.phGet (q := fun _ => 0) (Nat.zero_le _) hbn]
      have : crN Hs b ops.size ≤ 0 := (crN_iff D.mono hbn (Nat.zero_le _)).1 hlt
      rw [show max 0 (crN Hs b ops.size) = 0 by omega]
    · have : lwN ops (Array.replicate ops.size false) sl ops.size = 0 := by
        rcases lwN_spec (ops := ops) (listed := Array.replicate ops.size false) (s := sl) ops.size with h | ⟨k, _, _, h, _⟩
        · exact h
        · rw [hnone] at h; simp at h
      rw [this] at hv
      exact r sl v hv
    · rw [hnone]; simp
end
end Go.TI
