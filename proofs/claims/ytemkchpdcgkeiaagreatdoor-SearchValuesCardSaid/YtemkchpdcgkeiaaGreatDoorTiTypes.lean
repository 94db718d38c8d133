/- What the tables say of types; operands. -/
import Derived.Test.YtemkchpdcgkeiaaGreatDoorTiRel
import Derived.WalkCall
namespace Go.TI
set_option linter.unusedSimpArgs false
set_option linter.unusedVariables false
section
variable {P : Program} {cx : Ctx}

/-- The table's row of a type is right. -/
structure TyOk (P : Program) (t : TypeId) (ty : Ty) : Prop where
  is : ∃ cmp, tyOf P t cmp = some ty

theorem toNat_ofNat_lt {c : Nat} (h : c < 256) : (UInt8.ofNat c).toNat = c := by
  simp [UInt8.toNat_ofNat']; omega

theorem bytesN_eq (l : List UInt8) : bytesN l = some (l.map UInt8.toNat) := by
  induction l with
  | nil => rfl
  | cons x l ih =>
    show (bnd (normNat x.toNat) fun y => bnd (bytesN l) fun t => some (y :: t)) = _
    rw [ih]; simp

theorem bytesOf_toNat (s : ByteArray) : bytesOf (s.data.toList.map UInt8.toNat) = s := by
  unfold bytesOf
  rw [List.map_map]
  have : (UInt8.ofNat ∘ UInt8.toNat) = id := by funext x; simp
  rw [this]; simp

theorem RelV.ofCell {hp : Array Obj} {μ : Mu} {v : Value} {x : T} (h : ofCell v = some x) : RelV hp μ x v ∧ x.scalar = true := by
  unfold TI.ofCell at h
  split at h
  · simp at h; subst h; exact ⟨.bool _, rfl⟩
  · simp at h; subst h; exact ⟨.int _ _, rfl⟩
  · rename_i s
    rw [bytesN_eq] at h
    simp at h; subst h
    refine ⟨?_, rfl⟩
    have := RelV.str (hp := hp) (μ := μ) (s.data.toList.map UInt8.toNat) (by intro c hc; simp at hc; obtain ⟨a, _, rfl⟩ := hc; exact a.toNat_lt)
    rwa [bytesOf_toNat] at this
  · simp at h; subst h; exact ⟨.nilp, rfl⟩
  · simp at h; subst h; exact ⟨.nilm, rfl⟩
  · simp at h; subst h; exact ⟨.tree0 _ _, rfl⟩
  · simp at h; subst h; exact ⟨.nilf, rfl⟩
  · simp at h; subst h; exact ⟨.nili, rfl⟩
  · simp at h

theorem RelL.ofCells {hp : Array Obj} {μ : Mu} {l : List Value} {r : List T} (h : mapOpt TI.ofCell l = some r) : RelL hp μ r l ∧ ∀ v ∈ r, v.scalar = true := by
  obtain ⟨hl, hk⟩ := mapOpt_eq_some.1 h
  refine ⟨⟨hl.symm, fun k v hv => ?_⟩, fun v hv => ?_⟩
  · have hlt : k < l.length := by
      rcases Nat.lt_or_ge k r.length with a | a
      · omega
      · simp [List.getElem?_eq_none a] at hv
    obtain ⟨y, hy, hf⟩ := hk k l[k] (by simp [hlt])
    rw [hv] at hy; simp at hy; subst hy
    simpa [List.getD, hlt] using (RelV.ofCell hf).1
  · obtain ⟨k, hlt, rfl⟩ := List.getElem_of_mem hv
    have hlt' : k < l.length := by omega
    obtain ⟨y, hy, hf⟩ := hk k l[k] (by simp [hlt'])
    simp [hlt] at hy; subst hy
    exact (RelV.ofCell (hp := hp) (μ := μ) hf).2

theorem RelV.aggOf {hp : Array Obj} {μ : Mu} {vs : List T} {cs : Array Value} (h : RelL hp μ vs cs.toList) (hs : ∀ v ∈ vs, v.scalar = true) : RelV hp μ (.agg vs) (.agg cs) :=
  .agg vs cs (by simpa using h.1.symm) hs fun k v hv => by simpa [Array.getD_eq_getD_getElem?, List.getD] using h.2 k v hv

theorem RelV.ofConst {hp : Array Obj} {μ : Mu} {v : Value} {x : T} (h : ofConst v = some x) : RelV hp μ x v := by
  unfold TI.ofConst at h
  split at h
  · rename_i cs
    obtain ⟨r, h1, h2⟩ := bnd_eq_some.1 h
    simp at h2; subst h2
    obtain ⟨hL, hs⟩ := RelL.ofCells (hp := hp) (μ := μ) h1
    exact RelV.aggOf hL hs
  · exact (RelV.ofCell h).1

/-! ### types -/

theorem TyOk.unfold {t : TypeId} {ty : Ty} (h : TyOk P t ty) : ∃ i d z, P.info? t = some i ∧ P.underlying t = some d ∧ i.zero = some z ∧ mapOpt ofCell z.cells.toList = some ty.zero ∧
    uOf P d = some ty.u ∧ zeroFits d z = true ∧ ty.zero.length = i.size ∧ i.size = ty.size ∧ i.bytes = ty.bytes ∧
    (ty.cmp = true → P.stoodInHeld t = false ∧ P.eqGuardType P.depth t = false ∧ namesOk d = true) := by
  obtain ⟨cmp, h⟩ := h.is
  unfold tyOf at h
  obtain ⟨i, h1, h⟩ := bnd_eq_some.1 h
  obtain ⟨d, h2, h⟩ := bnd_eq_some.1 h
  obtain ⟨z, h3, h⟩ := bnd_eq_some.1 h
  obtain ⟨zs, h4, h⟩ := bnd_eq_some.1 h
  obtain ⟨u, h5, h⟩ := bnd_eq_some.1 h
  obtain ⟨h6, h⟩ := chk_eq_some.1 h
  obtain ⟨h7, h⟩ := chk_eq_some.1 h
  obtain ⟨h8, h⟩ := chk_eq_some.1 h
  simp at h
  rw [← h]
  refine ⟨i, d, z, h1, h2, h3, h4, h5, h6, ?_, rfl, rfl, ?_⟩
  · rw [lenN_eq] at h7
    exact Nat.eq_of_beq_eq_true h7
  · intro hc
    simp only [] at hc
    rw [hc] at h8
    simp at h8
    exact ⟨h8.1.1, h8.1.2, h8.2⟩

theorem TyOk.run_sizeOf {t : TypeId} {ty : Ty} (h : TyOk P t ty) (w : World) : (sizeOf t).run P w = .ok ty.size w := by
  obtain ⟨i, d, z, h1, _, _, _, _, _, _, h8, _⟩ := h.unfold
  simp [sizeOf, typeInfo, h1, h8]

theorem TyOk.run_typeInfo {t : TypeId} {ty : Ty} (h : TyOk P t ty) (w : World) : ∃ i, (typeInfo t).run P w = .ok i w ∧ i.bytes = ty.bytes ∧ i.size = ty.size := by
  obtain ⟨i, d, z, h1, _, _, _, _, _, _, h8, h9, _⟩ := h.unfold
  exact ⟨i, by simp [typeInfo, h1], h9, h8⟩

def aggD : TypeDesc → Bool
  | .struct _ | .array _ _ => true
  | _ => false

theorem isAgg_uOf {d : TypeDesc} {ty : Ty} (h : uOf P d = some ty.u) : ty.isAgg = aggD d := by
  unfold Ty.isAgg
  cases d <;> simp only [uOf] at h <;> first | (injection h with h; rw [← h]; rfl) | (split at h <;> simp at h; rw [← h]; rfl)

theorem TyOk.run_isAgg {t : TypeId} {ty : Ty} (h : TyOk P t ty) (w : World) : (isAgg t).run P w = .ok ty.isAgg w := by
  obtain ⟨i, d, z, _, h2, _, _, h5, _⟩ := h.unfold
  rw [isAgg_uOf h5]
  simp only [isAgg, Sem.run_bind, run_underlying h2, Result.andThen_ok]
  cases d <;> rfl

theorem TyOk.zero {t : TypeId} {ty : Ty} (h : TyOk P t ty) (w : World) : ∃ z, (zeroValue t).run P w = .ok z w ∧ (∀ hp μ, RelV hp μ ty.zeroT z) ∧ (∀ hp μ, RelL hp μ ty.zero z.cells.toList) ∧
    (∀ v ∈ ty.zero, v.scalar = true) ∧ ty.zero.length = ty.size ∧ ty.zeroT.cells = ty.zero ∧ ty.zeroT.good = true ∧ z.cells.size = ty.size := by
  obtain ⟨i, d, z, h1, h2, h3, h4, h5, h6, h7, h8, h9, _⟩ := h.unfold
  have hsc := (RelL.ofCells (hp := #[]) (μ := ⟨fun _ => none, fun _ => False⟩) h4).2
  have hlen : ty.zero.length = z.cells.size := by
    have := (RelL.ofCells (hp := #[]) (μ := ⟨fun _ => none, fun _ => False⟩) h4).1.1
    simpa using this
  refine ⟨z, by simp [zeroValue, typeInfo, h1, h3], ?_, fun hp μ => (RelL.ofCells h4).1, hsc, by omega, ?_⟩
  · intro hp μ
    have hL := (RelL.ofCells (hp := hp) (μ := μ) h4).1
    unfold Ty.zeroT
    rw [isAgg_uOf h5]
    cases d with
    | struct fs => cases z with
      | agg cs => exact RelV.aggOf hL hsc
      | _ => simp [zeroFits] at h6
    | array n e => cases z with
      | agg cs => exact RelV.aggOf hL hsc
      | _ => simp [zeroFits] at h6
    | _ =>
      have hz : z.cells = #[z] := by cases z <;> simp [zeroFits] at h6 <;> rfl
      rw [hz] at hL
      obtain ⟨hl, _⟩ := hL
      simp at hl
      match hzz : ty.zero, hl with
      | [x], _ =>
        have hL := (RelL.ofCells (hp := hp) (μ := μ) h4).1
        rw [hz, hzz] at hL
        obtain ⟨c, cs, hcs, hv, _⟩ := hL.uncons
        simp at hcs
        show RelV hp μ x z
        rw [hcs.1]; exact hv
  · have hagg := isAgg_uOf h5
    have hcase : (ty.isAgg = true ∧ ty.zeroT = .agg ty.zero) ∨ (ty.isAgg = false ∧ ∃ x, ty.zero = [x] ∧ ty.zeroT = x ∧ x.scalar = true) := by
      cases hb : ty.isAgg with
      | true => left; exact ⟨rfl, by unfold Ty.zeroT; rw [hb]⟩
      | false =>
        right
        refine ⟨rfl, ?_⟩
        have hz : z.cells = #[z] := by
          rw [hb] at hagg
          cases d <;> simp [aggD] at hagg <;> cases z <;> simp [zeroFits] at h6 <;> rfl
        rw [hz] at hlen
        simp at hlen
        match hzz : ty.zero, hlen with
        | [x], _ => exact ⟨x, rfl, by unfold Ty.zeroT; rw [hb, hzz]; rfl, hsc x (by simp [hzz])⟩
    rcases hcase with ⟨_, h⟩ | ⟨_, x, hx, h, hs⟩
    · rw [h]; exact ⟨rfl, rfl, by omega⟩
    · rw [h, hx]
      refine ⟨?_, ?_, by omega⟩
      · cases x <;> simp [T.scalar] at hs <;> rfl
      · cases x <;> simp [T.scalar] at hs <;> rfl

/-- The tables are right. -/
structure TysOk (P : Program) (cx : Ctx) : Prop where
  ty : ∀ t ty, cx.ty t = some ty → TyOk P t ty

/-! ### operands -/

/-- The slots stand for the frame's. -/
def RelE (hp : Array Obj) (μ : Mu) (mask : Nat) (e : Env) (tmps : Array Value) : Prop :=
  ∀ s v, e.get mask s = some v → RelV hp μ v (tmps.getD s Go.undef)

theorem RelE.ext {hp hp' : Array Obj} {μ μ' : Mu} {mask : Nat} {e : Env} {tmps : Array Value} (h : RelE hp μ mask e tmps) (x : Ext hp μ hp' μ') : RelE hp' μ' mask e tmps :=
  fun s v hv => (h s v hv).ext x

theorem opnd_sound {base : Nat} {hp : Array Obj} {μ : Mu} {h : H} {mask : Nat} {e : Env} {a : Act} (s : St cx base hp μ h) (r : RelE hp μ mask e a.tmps) {o : Operand} {v : T}
    (ho : opnd cx mask e o = some v) : RelV hp μ v (a.eval o) := by
  cases o with
  | tmp t => exact r t v ho
  | const c => exact RelV.ofConst ho
  | global g =>
    obtain ⟨cs, h1, h2⟩ := bnd_eq_some.1 ho
    simp at h2; subst h2
    exact s.glob g cs h1
  | func f =>
    have : T.func f [] = v := by simpa [opnd] using ho
    subst this
    exact .func f [] #[] rfl fun k v hv => by simp at hv

theorem opnds_sound {base : Nat} {hp : Array Obj} {μ : Mu} {h : H} {mask : Nat} {e : Env} {a : Act} (s : St cx base hp μ h) (r : RelE hp μ mask e a.tmps) {l : List Operand} {vs : List T}
    (ho : opnds cx mask e l = some vs) : RelL hp μ vs (l.map a.eval) := by
  induction l generalizing vs with
  | nil => simp [opnds] at ho; subst ho; exact RelL.nil
  | cons o l ih =>
    unfold opnds at ho
    rw [mapOpt_cons] at ho
    obtain ⟨x, h1, ho⟩ := bnd_eq_some.1 ho
    obtain ⟨t, h2, ho⟩ := bnd_eq_some.1 ho
    simp at ho; subst ho
    exact RelL.cons (opnd_sound s r h1) (ih h2)
end
end Go.TI
