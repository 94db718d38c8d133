/- How the interpreter's heap grows: sizes, the low mark, versions. -/
import Derived.Test.YtemkchpdcgkeiaaGreatDoorTiStep
namespace Go.TI
set_option linter.unusedSimpArgs false
set_option linter.unusedVariables false
set_option linter.unusedVariables false
set_option linter.unusedSectionVars false

/-- From one heap of the interpreter to a later one. -/
structure Grow (h h' : H) : Prop where
  wf : h'.boxes.length = h'.size
  size : h.size ≤ h'.size
  low : h'.low ≤ h.low
  keep : ∀ b, b < h.size → b < h'.low → h'.get b = h.get b
  ver : ∀ b x, h.get b = some x → ∃ x', h'.get b = some x' ∧ (x' = x ∨ x.ver < x'.ver)

theorem Grow.refl {h : H} (hw : h.boxes.length = h.size) : Grow h h := ⟨hw, Nat.le_refl _, Nat.le_refl _, fun _ _ _ => rfl, fun _ x hx => ⟨x, hx, .inl rfl⟩⟩

theorem Grow.trans {h h1 h2 : H} (a : Grow h h1) (b : Grow h1 h2) : Grow h h2 := by
  refine ⟨b.wf, Nat.le_trans a.size b.size, Nat.le_trans b.low a.low, fun c hc hl => ?_, fun c x hx => ?_⟩
  · rw [b.keep c (Nat.lt_of_lt_of_le hc a.size) hl, a.keep c hc (Nat.lt_of_lt_of_le hl b.low)]
  · obtain ⟨x1, h1, r1⟩ := a.ver c x hx
    obtain ⟨x2, h2, r2⟩ := b.ver c x1 h1
    refine ⟨x2, h2, ?_⟩
    rcases r1 with rfl | r1 <;> rcases r2 with rfl | r2
    · exact .inl rfl
    · exact .inr r2
    · exact .inr r1
    · exact .inr (Nat.lt_trans r1 r2)

theorem H.get_lt {h : H} {b : Nat} {x : Box} (hx : h.get b = some x) : b < h.size := by
  rw [H.get_eq] at hx
  by_cases hb : b < h.size
  · exact hb
  · simp [hb] at hx

theorem Grow.cons {h : H} (hw : h.boxes.length = h.size) (x : Box) : Grow h (h.cons x) := by
  refine ⟨by simp [H.cons, hw], by simp [H.cons], by simp [H.cons], fun b hb _ => H.get_cons_other hb x, fun b y hy => ⟨y, ?_, .inl rfl⟩⟩
  rw [H.get_cons_other (H.get_lt hy) x]; exact hy

theorem Grow.put {h h' : H} (hw : h.boxes.length = h.size) {b : Nat} {x y : Box} (hg : h.get b = some x) (hput : h.put b y = some h') (hv : x.ver < y.ver) : Grow h h' := by
  obtain ⟨p1, p2, p3, p4⟩ := put_get hput hw
  obtain ⟨q1, q2, rfl⟩ := H.put_eq_some.1 hput
  refine ⟨p2, by simp, ?_, fun c hc hl => p4 c ?_, fun c z hz => ?_⟩
  · simp only; split <;> omega
  · rintro rfl
    simp only at hl
    split at hl <;> omega
  · by_cases hcb : c = b
    · subst hcb
      rw [hg] at hz; simp only [Option.some.injEq] at hz; subst hz
      exact ⟨y, p3, .inr hv⟩
    · exact ⟨z, by rw [p4 c hcb]; exact hz, .inl rfl⟩

/-- What an operation leaves of the heap. -/
def Mv (h : H) (x : Option Did) : Prop := ∀ v h', x = some (.val v h') → Grow h h'

section
variable {h : H} (hw : h.boxes.length = h.size)
include hw
theorem Mv.none : Mv h none := fun _ _ hh => by simp at hh
theorem Mv.val {x : Option T} : Mv h (val h x) := fun v h' hh => by obtain ⟨_, rfl⟩ := val_eq_some.1 hh; exact Grow.refl hw
theorem Mv.some {v : T} : Mv h (some (.val v h)) := fun v h' hh => by simp at hh; obtain ⟨_, rfl⟩ := hh; exact Grow.refl hw
theorem Mv.new {f : Nat → T} {x : Box} : Mv h (valNew (h.new f x)) := fun v h' hh => by
  rw [valNew_eq_some, H.new_cons] at hh
  simp only [Option.some.injEq, Prod.mk.injEq] at hh
  obtain ⟨_, rfl⟩ := hh
  exact Grow.cons hw x
theorem Mv.bnd {α : Type} {x : Option α} {f : α → Option Did} (hf : ∀ y, x = Option.some y → Mv h (f y)) : Mv h (bnd x f) := by
  cases x with
  | none => exact Mv.none hw
  | some y => exact hf y rfl
theorem Mv.chk {b : Bool} {x : Option Did} (hx : Mv h x) : Mv h (chk b x) := by
  cases b with
  | false => exact Mv.none hw
  | true => exact hx
theorem Mv.bool {b : Bool} {x y : Option Did} (hx : Mv h x) (hy : Mv h y) : Mv h (Bool.casesOn b x y) := by
  cases b <;> assumption

theorem Mv.opt {α : Type} {x : Option α} {y : Option Did} {f : α → Option Did} (hy : Mv h y) (hf : ∀ z, Mv h (f z)) : Mv h (Option.casesOn x y f) := by
  cases x with
  | none => exact hy
  | some z => exact hf z

theorem appendNew_grow {sz bytes : Nat} {old xs : List T} {v : T} {h' : H} (hh : h.appendNew sz bytes old xs = Option.some (v, h')) : Grow h h' := by
  replace hh := bnd_eq_some.1 hh; obtain ⟨es, _, hh⟩ := hh
  replace hh := bnd_eq_some.1 hh; obtain ⟨n, _, hh⟩ := hh
  obtain ⟨_, hh⟩ := chk_eq_some.1 hh
  obtain ⟨_, hh⟩ := chk_eq_some.1 hh
  obtain ⟨_, hh⟩ := chk_eq_some.1 hh
  obtain ⟨_, hh⟩ := chk_eq_some.1 hh
  rw [H.new_cons] at hh
  simp only [Option.some.injEq, Prod.mk.injEq] at hh
  obtain ⟨_, rfl⟩ := hh
  exact Grow.cons hw _

theorem appendOn_grow {sz bytes b ep l : Nat} {xs : List T} {v : T} {h' : H} (hh : h.appendOn sz bytes b ep l xs = Option.some (v, h')) : Grow h h' := by
  replace hh := bnd_eq_some.1 hh; obtain ⟨x, hx, hh⟩ := hh
  obtain ⟨sz', ep', ver, ex, it, elems⟩ := x
  simp only at hh
  replace hh := bnd_eq_some.1 hh; obtain ⟨es0, _, hh⟩ := hh
  replace hh := bnd_eq_some.1 hh; obtain ⟨es, _, hh⟩ := hh
  replace hh := bnd_eq_some.1 hh; obtain ⟨n, _, hh⟩ := hh
  obtain ⟨_, hh⟩ := chk_eq_some.1 hh
  obtain ⟨_, hh⟩ := chk_eq_some.1 hh
  obtain ⟨_, hh⟩ := chk_eq_some.1 hh
  obtain ⟨_, hh⟩ := chk_eq_some.1 hh
  obtain ⟨_, hh⟩ := chk_eq_some.1 hh
  cases it with
  | true => simp at hh
  | false =>
    simp only [normNat_eq, bnd_some] at hh
    replace hh := bnd_eq_some.1 hh; obtain ⟨h1, hput, hh⟩ := hh
    simp only [Option.some.injEq, Prod.mk.injEq] at hh
    obtain ⟨_, rfl⟩ := hh
    exact Grow.put hw hx hput (by show ver < ver.succ; omega)

theorem append_grow {sz bytes : Nat} {s : T} {xs : List T} {v : T} {h' : H} (hh : h.append sz bytes s xs = Option.some (v, h')) : Grow h h' := by
  unfold H.append at hh
  cases xs with
  | nil =>
    have hh : Go.TI.chk (isSliceT s) (Option.some (s, h)) = Option.some (v, h') := hh
    obtain ⟨_, hh⟩ := chk_eq_some.1 hh
    simp only [Option.some.injEq, Prod.mk.injEq] at hh
    obtain ⟨_, rfl⟩ := hh
    exact Grow.refl hw
  | cons y ys =>
    simp only at hh
    cases s <;> simp only [reduceCtorEq] at hh
    case tree es full =>
      cases es with
      | nil => exact appendNew_grow hw hh
      | cons z zs => obtain ⟨_, hh⟩ := chk_eq_some.1 hh; exact appendNew_grow hw hh
    case arr b ep o l full =>
      cases full with
      | false =>
        cases o with
        | zero => exact appendOn_grow hw hh
        | succ o => simp at hh
      | true => replace hh := bnd_eq_some.1 hh; obtain ⟨es, _, hh⟩ := hh; exact appendNew_grow hw hh

theorem store_grow {t : Ty} {a v : T} {h' : H} (hh : h.store t a v = Option.some h') : Grow h h' := by
  unfold H.store at hh
  cases a <;> simp only [reduceCtorEq] at hh
  obtain ⟨_, hh⟩ := chk_eq_some.1 hh
  replace hh := bnd_eq_some.1 hh; obtain ⟨x, hx, hh⟩ := hh
  obtain ⟨sz', ep', ver, ex, it, elems⟩ := x
  simp only at hh
  obtain ⟨_, hh⟩ := chk_eq_some.1 hh
  cases it with
  | true => simp at hh
  | false =>
    simp only at hh
    replace hh := bnd_eq_some.1 hh; obtain ⟨_, _, hh⟩ := hh
    replace hh := bnd_eq_some.1 hh; obtain ⟨_, _, hh⟩ := hh
    replace hh := bnd_eq_some.1 hh; obtain ⟨_, _, hh⟩ := hh
    simp only [normNat_eq, bnd_some] at hh
    exact Grow.put hw hx hh (by show ver < ver.succ; omega)

theorem mv_opH {op : Op} {cx : Ctx} {mask : Nat} {e : Env} : Mv h (opH op cx mask e h) := by
  cases op <;> simp only [opH] <;> first
    | exact Mv.none hw
    | skip
  case binOp op t x y u =>
    cases op <;> first
      | (simp only []; unfold hEq; exact Mv.bnd hw fun _ _ => Mv.bnd hw fun _ _ => Mv.bnd hw fun _ _ => Mv.chk hw (Mv.bnd hw fun _ _ => Mv.val hw))
      | (simp only []; unfold hBin; exact Mv.bnd hw fun _ _ => Mv.bnd hw fun _ _ => Mv.val hw)
  case store t a x =>
    unfold hStore
    refine Mv.bnd hw fun _ _ => Mv.bnd hw fun _ _ => Mv.bnd hw fun _ _ => Mv.chk hw (Mv.bnd hw fun h1 hs => ?_)
    intro v h' hh
    simp only [Option.some.injEq, Did.val.injEq] at hh
    obtain ⟨_, rfl⟩ := hh
    exact store_grow hw hs
  case mapUpdate t m k x =>
    unfold hMapUpdate
    refine Mv.bnd hw fun ty _ => ?_
    split
    · refine Mv.bnd hw fun _ _ => Mv.bnd hw fun _ _ => Mv.bnd hw fun _ _ => Mv.bnd hw fun _ _ => Mv.chk hw (Mv.chk hw ?_)
      split
      · rename_i b _
        refine Mv.bnd hw fun bx hbx => ?_
        obtain ⟨sz, ep, ver, ex, it, es⟩ := bx
        simp only
        refine Mv.chk hw (Mv.bnd hw fun r _ => ?_)
        simp only [normNat_eq, bnd_some]
        have key : ∀ es', Mv h (Go.TI.bnd (h.put b ⟨sz, ep, Nat.succ ver, ex, true, es'⟩) fun h' => Option.some (.val .undef h')) := by
          intro es'
          refine Mv.bnd hw fun h1 hput => ?_
          intro v h' hh
          simp only [Option.some.injEq, Did.val.injEq] at hh
          obtain ⟨_, rfl⟩ := hh
          exact Grow.put hw hbx hput (by show ver < ver.succ; omega)
        refine Mv.opt hw ?_ fun p => ?_
        · exact Mv.bnd hw fun es' _ => key es'
        · obtain ⟨i, u⟩ := p
          exact Mv.bnd hw fun es' _ => key es'
      · exact Mv.none hw
    · exact Mv.none hw
  case next it s =>
    unfold hNext
    refine Mv.chk hw (Mv.bnd hw fun v _ => ?_)
    cases v <;> simp only <;> first | exact Mv.none hw | skip
    refine Mv.bnd hw fun x hx => Mv.chk hw ?_
    split
    · refine Mv.bool hw (Mv.some hw) (Mv.bnd hw fun c _ => ?_)
      simp only [normNat_eq, bnd_some]
      refine Mv.bnd hw fun h1 hput => ?_
      intro v h' hh
      simp only [Option.some.injEq, Did.val.injEq] at hh
      obtain ⟨_, rfl⟩ := hh
      exact Grow.put hw hx hput (by show x.ver < x.ver.succ; omega)
    · exact Mv.none hw
  case «call» c =>
    unfold hCall
    refine Mv.bnd hw fun args _ => ?_
    split
    · rename_i b _
      cases b <;> simp only [builtinT] <;> first | exact Mv.none hw | skip
      case len =>
        split
        · unfold bLen
          refine Mv.bnd hw fun _ _ => Mv.bnd hw fun _ _ => ?_
          repeat first | exact Mv.none hw | exact Mv.val hw | split
        · exact Mv.none hw
      case append =>
        split
        · split
          · unfold bAppend
            refine Mv.bnd hw fun _ _ => Mv.bnd hw fun _ _ => Mv.chk hw ?_
            intro v h' hh
            exact append_grow hw (valNew_eq_some.1 hh)
          · exact Mv.none hw
        · exact Mv.none hw
      case clear =>
        split
        · split
          · unfold bClear
            refine Mv.bnd hw fun te _ => ?_
            split
            · rename_i es _ _ ; cases es
              · exact Mv.some hw
              · exact Mv.none hw
            · exact Mv.some hw
            · rename_i l _ _
              cases l with
              | zero => exact Mv.some hw
              | succ l =>
                refine Mv.bnd hw fun x hx => ?_
                refine Mv.chk hw (Mv.chk hw (Mv.bool hw ?_ ?_))
                · refine Mv.bnd hw fun es _ => ?_
                  simp only [normNat_eq, bnd_some]
                  refine Mv.bnd hw fun h1 hput => ?_
                  intro v h' hh
                  simp only [Option.some.injEq, Did.val.injEq] at hh
                  obtain ⟨_, rfl⟩ := hh
                  exact Grow.put hw hx hput (by show x.ver < x.ver.succ; omega)
                · exact Mv.none hw
            · exact Mv.none hw
          · exact Mv.none hw
        · exact Mv.none hw
      all_goals (split <;> first | exact Mv.val hw | exact Mv.none hw)
    · refine Mv.bnd hw fun v _ => ?_
      split
      · refine Mv.bnd hw fun l _ => ?_
        intro v h' hh
        simp at hh
      · exact Mv.none hw
    · exact Mv.none hw
  all_goals
    first
      | unfold hMove | unfold hPick | unfold hAlloc | unfold hBox | unfold hBuild | unfold hBuildSlice | unfold hLoad | unfold hNilCheck | unfold hUn | unfold hConv | unfold hIface | unfold hFunc
      | unfold hMakeSlice | unfold hSlice | unfold hFieldAddr | unfold hField | unfold hIndexAddr | unfold hIndex | unfold hExtract | unfold hMakeMap | unfold hLookup | unfold hRangeAt
  all_goals
    repeat first
      | exact Mv.none hw
      | exact Mv.val hw
      | exact Mv.some hw
      | exact Mv.new hw
      | refine Mv.bnd hw fun _ _ => ?_
      | refine Mv.chk hw ?_
      | refine Mv.bool hw ?_ ?_
      | split
      | unfold idxSlice
      | unfold idxArray
      | unfold hRange
      | (refine Mv.opt hw ?_ fun _ => ?_)
      | (unfold two)
end
end Go.TI
