/- What an operation looks at: its operands' slots, and at most one box. -/
import Derived.Test.YtemkchpdcgkeiaaGreatDoorTiCode
namespace Go.TI
set_option linter.unusedSimpArgs false
set_option linter.unusedVariables false
set_option linter.unusedVariables false

theorem mapOpt_congr {α β : Type} {f g : α → Option β} : ∀ {l : List α}, (∀ x ∈ l, f x = g x) → mapOpt f l = mapOpt g l
  | [], _ => rfl
  | x :: l, h => by
    rw [mapOpt_cons, mapOpt_cons, h x (by simp), mapOpt_congr fun y hy => h y (by simp [hy])]

section
variable {cx : Ctx} {mask : Nat} {e e' : Env} {h h1 h2 : H}

theorem opnds_congr {l : List Operand} (hx : ∀ x ∈ l, opnd cx mask e x = opnd cx mask e' x) : opnds cx mask e l = opnds cx mask e' l := mapOpt_congr hx

theorem partsOf_congr {l : List (Nat × Operand)} (hx : ∀ p ∈ l, opnd cx mask e p.2 = opnd cx mask e' p.2) : partsOf cx mask e l = partsOf cx mask e' l := by
  unfold partsOf
  refine mapOpt_congr fun p hp => ?_
  obtain ⟨i, o⟩ := p
  simp only [two_mk]
  rw [hx (i, o) hp]

theorem optIdx_congr {x : Option Operand} (hx : ∀ o, x = some o → opnd cx mask e o = opnd cx mask e' o) : optIdx cx mask e x = optIdx cx mask e' x := by
  cases x with
  | none => rfl
  | some o =>
    show (bnd (opnd cx mask e o) fun v => bnd (toIdx v) fun n => some (some n)) = (bnd (opnd cx mask e' o) fun v => bnd (toIdx v) fun n => some (some n))
    rw [hx o rfl]

theorem opH_congr {op : Op} (hx : ∀ x ∈ op.operands, opnd cx mask e x = opnd cx mask e' x) : opH op cx mask e h = opH op cx mask e' h := by
  cases op with
  | move x => have h1 := hx x (by simp [Op.operands]); simp only [opH, hMove, h1]
  | assign x => have h1 := hx x (by simp [Op.operands]); simp only [opH, hMove, h1]
  | pick c a b =>
    have h1 := hx c (by simp [Op.operands]); have h2 := hx a (by simp [Op.operands]); have h3 := hx b (by simp [Op.operands])
    simp only [opH, hPick, h1, h2, h3]
  | alloc t => rfl
  | box t x => have h1 := hx x (by simp [Op.operands]); simp only [opH, hBox, h1]
  | build t ps =>
    have h1 : partsOf cx mask e ps.toList = partsOf cx mask e' ps.toList := partsOf_congr fun p hp => hx p.2 (by simp only [Op.operands, List.mem_toArray, List.mem_map]; exact ⟨p, hp, rfl⟩)
    simp only [opH, hBuild, h1]
  | buildSlice t n ps =>
    have h1 : partsOf cx mask e ps.toList = partsOf cx mask e' ps.toList := partsOf_congr fun p hp => hx p.2 (by simp only [Op.operands, List.mem_toArray, List.mem_map]; exact ⟨p, hp, rfl⟩)
    simp only [opH, hBuildSlice, h1]
  | load t a => have h1 := hx a (by simp [Op.operands]); simp only [opH, hLoad, h1]
  | store t a x => have h1 := hx a (by simp [Op.operands]); have h2 := hx x (by simp [Op.operands]); simp only [opH, hStore, h1, h2]
  | nilCheck x => have h1 := hx x (by simp [Op.operands]); simp only [opH, hNilCheck, h1]
  | binOp op t x y u =>
    have h1 := hx x (by simp [Op.operands]); have h2 := hx y (by simp [Op.operands])
    cases op <;> simp only [opH, hEq, hBin, h1, h2]
  | unOp op t x => have h1 := hx x (by simp [Op.operands]); simp only [opH, hUn, h1]
  | convert s d x => have h1 := hx x (by simp [Op.operands]); simp only [opH, hConv, h1]
  | makeInterface t x => have h1 := hx x (by simp [Op.operands]); simp only [opH, hIface, h1]
  | makeFunc fn a b =>
    have h1 : opnds cx mask e b.toList = opnds cx mask e' b.toList := opnds_congr fun x hm => hx x (by simp only [Op.operands, Array.mem_append]; right; simpa using hm)
    simp only [opH, hFunc, h1]
  | makeSlice t l c => have h1 := hx l (by simp [Op.operands]); have h2 := hx c (by simp [Op.operands]); simp only [opH, hMakeSlice, h1, h2]
  | slice t x lo hi mx =>
    have h1 := hx x (by simp [Op.operands])
    have h2 : optIdx cx mask e lo = optIdx cx mask e' lo := optIdx_congr fun o ho => hx o (by subst ho; simp [Op.operands])
    have h3 : optIdx cx mask e hi = optIdx cx mask e' hi := optIdx_congr fun o ho => hx o (by subst ho; simp [Op.operands])
    have h4 : optIdx cx mask e mx = optIdx cx mask e' mx := optIdx_congr fun o ho => hx o (by subst ho; simp [Op.operands])
    simp only [opH, hSlice, h1, h2, h3, h4]
  | fieldAddr t x f => have h1 := hx x (by simp [Op.operands]); simp only [opH, hFieldAddr, h1]
  | field t x f => have h1 := hx x (by simp [Op.operands]); simp only [opH, hField, h1]
  | indexAddr t x i => have h1 := hx x (by simp [Op.operands]); have h2 := hx i (by simp [Op.operands]); simp only [opH, hIndexAddr, h1, h2]
  | index t x i => have h1 := hx x (by simp [Op.operands]); have h2 := hx i (by simp [Op.operands]); simp only [opH, hIndex, h1, h2]
  | extract x i => have h1 := hx x (by simp [Op.operands]); simp only [opH, hExtract, h1]
  | makeMap t r => rfl
  | lookup t x i ok => have h1 := hx x (by simp [Op.operands]); have h2 := hx i (by simp [Op.operands]); simp only [opH, hLookup, h1, h2]
  | mapUpdate t m k x =>
    have h1 := hx m (by simp [Op.operands]); have h2 := hx k (by simp [Op.operands]); have h3 := hx x (by simp [Op.operands])
    simp only [opH, hMapUpdate, h1, h2, h3]
  | range t x => have h1 := hx x (by simp [Op.operands]); simp only [opH, hRangeAt, hRange, h1]
  | next it s => have h1 := hx it (by simp [Op.operands]); simp only [opH, hNext, h1]
  | «call» c =>
    have h1 : opnds cx mask e c.args.toList = opnds cx mask e' c.args.toList := opnds_congr fun x hm => hx x (by simp only [Op.operands, Call.operands, Array.mem_append]; right; simpa using hm)
    simp only [opH, hCall, h1]
    cases hc : c.callee with
    | builtin b => rfl
    | invoke x m => rfl
    | value f =>
      have h2 := hx f (by simp only [Op.operands, Call.operands, hc]; simp)
      simp only [h2]
  | _ => rfl

theorem looksBox_congr {op : Op} (hx : ∀ x ∈ op.operands, opnd cx mask e x = opnd cx mask e' x) : looksBox cx mask e h op = looksBox cx mask e' h op := by
  cases op with
  | load t x => have h1 := hx x (by simp [Op.operands]); simp only [looksBox, h1]
  | indexAddr t x i => have h1 := hx x (by simp [Op.operands]); simp only [looksBox, h1]
  | slice t x lo hi mx => have h1 := hx x (by simp [Op.operands]); simp only [looksBox, h1]
  | convert s d x => have h1 := hx x (by simp [Op.operands]); simp only [looksBox, h1]
  | lookup t x i ok => have h1 := hx x (by simp [Op.operands]); simp only [looksBox, h1]
  | _ => rfl

/-- The same at two heaps: nothing is made, nothing is looked at. -/
def Ind (h1 h2 : H) (x1 x2 : Option Did) : Prop := ∀ v h', x1 = some (.val v h') → h' = h1 ∧ x2 = some (.val v h2)

theorem Ind.none : Ind h1 h2 none none := fun _ _ hh => by simp at hh
theorem Ind.val {x : Option T} : Ind h1 h2 (val h1 x) (val h2 x) := fun v h' hh => by
  obtain ⟨rfl, rfl⟩ := val_eq_some.1 hh
  exact ⟨rfl, val_eq_some.2 ⟨rfl, rfl⟩⟩
theorem Ind.some {v : T} : Ind h1 h2 (some (.val v h1)) (some (.val v h2)) := fun v h' hh => by
  simp only [Option.some.injEq, Did.val.injEq] at hh
  obtain ⟨rfl, rfl⟩ := hh
  exact ⟨rfl, rfl⟩
theorem Ind.bnd {α : Type} {x : Option α} {f g : α → Option Did} (hf : ∀ y, x = Option.some y → Ind h1 h2 (f y) (g y)) : Ind h1 h2 (bnd x f) (bnd x g) := by
  cases x with
  | none => exact Ind.none
  | some y => exact hf y rfl
theorem Ind.chk {b : Bool} {x y : Option Did} (hx : Ind h1 h2 x y) : Ind h1 h2 (chk b x) (chk b y) := by
  cases b with
  | false => exact Ind.none
  | true => exact hx
theorem Ind.bool {b : Bool} {x y x' y' : Option Did} (hx : Ind h1 h2 x x') (hy : Ind h1 h2 y y') : Ind h1 h2 (Bool.casesOn b x y) (Bool.casesOn b x' y') := by
  cases b <;> assumption

/-- How a new box's number stands in the value. -/
def Fresh (f : Nat → T) : Prop := (∀ b, f b = .ptr b 0 0 0) ∨ (∃ l, ∀ b, f b = .arr b 0 0 l false) ∨ (∀ b, f b = .iter b) ∨ (∀ b, f b = .map b)

/-- A box is made, the same at two heaps. -/
def Mk (h1 h2 : H) (x1 x2 : Option Did) : Prop := ∀ v h', x1 = some (.val v h') → ∃ f x, Fresh f ∧ v = f h1.size ∧ h' = h1.cons x ∧ x2 = some (.val (f h2.size) (h2.cons x))

theorem Mk.none : Mk h1 h2 none none := fun _ _ hh => by simp at hh
theorem Mk.new {f : Nat → T} {x : Box} (hf : Fresh f) : Mk h1 h2 (valNew (h1.new f x)) (valNew (h2.new f x)) := fun v h' hh => by
  rw [valNew_eq_some, H.new_cons] at hh
  simp only [Option.some.injEq, Prod.mk.injEq] at hh
  obtain ⟨rfl, rfl⟩ := hh
  exact ⟨f, x, hf, rfl, rfl, by rw [valNew_eq_some, H.new_cons]⟩
theorem Mk.bnd {α : Type} {x : Option α} {f g : α → Option Did} (hf : ∀ y, x = Option.some y → Mk h1 h2 (f y) (g y)) : Mk h1 h2 (bnd x f) (bnd x g) := by
  cases x with
  | none => exact Mk.none
  | some y => exact hf y rfl
theorem Mk.chk {b : Bool} {x y : Option Did} (hx : Mk h1 h2 x y) : Mk h1 h2 (chk b x) (chk b y) := by
  cases b with
  | false => exact Mk.none
  | true => exact hx

theorem mk_alloc {t : TypeId} : Mk h1 h2 (opH (.alloc t) cx mask e h1) (opH (.alloc t) cx mask e h2) := by
  simp only [opH, hAlloc]
  refine Mk.bnd fun ty _ => ?_
  cases isBytes cx ty <;> exact Mk.new (.inl fun _ => rfl)
theorem mk_box {t : TypeId} {x : Operand} : Mk h1 h2 (opH (.box t x) cx mask e h1) (opH (.box t x) cx mask e h2) := by
  simp only [opH, hBox]
  exact Mk.bnd fun v _ => Mk.chk (Mk.new (.inl fun _ => rfl))
theorem mk_buildSlice {t : TypeId} {n : Nat} {ps : Array (Nat × Operand)} : Mk h1 h2 (opH (.buildSlice t n ps) cx mask e h1) (opH (.buildSlice t n ps) cx mask e h2) := by
  simp only [opH, hBuildSlice]
  refine Mk.bnd fun ty _ => ?_
  cases ty.u <;> first
    | exact Mk.none
    | exact Mk.bnd fun te _ => Mk.bnd fun ps _ => Mk.chk (Mk.chk (Mk.bnd fun es _ => Mk.new (.inr (.inl ⟨_, fun _ => rfl⟩))))
theorem mk_makeSlice {t : TypeId} {l c : Operand} : Mk h1 h2 (opH (.makeSlice t l c) cx mask e h1) (opH (.makeSlice t l c) cx mask e h2) := by
  simp only [opH, hMakeSlice]
  refine Mk.bnd fun ty _ => ?_
  cases ty.u <;> first
    | exact Mk.none
    | exact Mk.bnd fun te _ => Mk.bnd fun _ _ => Mk.bnd fun _ _ => Mk.bnd fun _ _ => Mk.bnd fun _ _ => Mk.chk (Mk.chk (Mk.chk (Mk.chk (Mk.new (.inr (.inl ⟨_, fun _ => rfl⟩))))))
theorem mk_range {t : TypeId} {x : Operand} : Mk h1 h2 (opH (.range t x) cx mask e h1) (opH (.range t x) cx mask e h2) := by
  simp only [opH, hRangeAt, hRange]
  refine Mk.bnd fun ty _ => ?_
  cases ty.u <;> first
    | exact Mk.none
    | (refine Mk.bnd fun v _ => ?_
       cases v <;> first
        | exact Mk.none
        | exact Mk.new (.inr (.inr (.inl fun _ => rfl))))

theorem mk_makeMap {t : TypeId} {r : Option Operand} : Mk h1 h2 (opH (.makeMap t r) cx mask e h1) (opH (.makeMap t r) cx mask e h2) := by
  simp only [opH, hMakeMap]
  cases r with
  | some y => exact Mk.none
  | none =>
    refine Mk.bnd fun ty _ => ?_
    cases ty.u <;> first
      | exact Mk.none
      | exact Mk.new (.inr (.inr (.inr fun _ => rfl)))

theorem load_heap {ty : Ty} {a v : T} (hl : ∀ b, boxOf a = some b → b < h1.size → h2.get b = h1.get b) (hh : h1.load ty a = some v) : h2.load ty a = some v := by
  cases a with
  | ptr b ep i j =>
    have hh : (bnd (h1.elem b ep i) fun e => bnd (dropN j e.cells) fun cs => readAs ty cs) = some v := hh
    show (bnd (h2.elem b ep i) fun e => bnd (dropN j e.cells) fun cs => readAs ty cs) = some v
    replace hh := bnd_eq_some.1 hh; obtain ⟨el, he, hh⟩ := hh
    have he2 : h2.elem b ep i = some el := by
      have he' := he
      unfold H.elem at he' ⊢
      replace he' := bnd_eq_some.1 he'; obtain ⟨x, hx, _⟩ := he'
      rw [hl b rfl (H.get_lt hx)]
      exact he
    rw [he2]; exact hh
  | _ => exact hh

theorem idxSlice_heap {te : Ty} {x : T} {i : Nat} (hl : ∀ b, boxOf x = some b → b < h1.size → h2.get b = h1.get b) : Ind h1 h2 (idxSlice h1 te x i) (idxSlice h2 te x i) := by
  cases x with
  | tree es f => exact Ind.bnd fun _ _ => Ind.chk Ind.some
  | arr b ep o l f =>
    intro v h' hh
    have hh0 := hh
    have hh : chk (Nat.blt i l) (bnd (h1.get b) fun bx => chk (Nat.beq bx.sz te.size) <| chk (Nat.beq bx.ep ep) (bnd (normNat (Nat.add o i)) fun k => some (Did.val (.ptr b ep k 0) h1))) = some (.val v h') := hh
    obtain ⟨_, hh⟩ := chk_eq_some.1 hh
    obtain ⟨x, hx, _⟩ := bnd_eq_some.1 hh
    have e2 := hl b rfl (H.get_lt hx)
    have : idxSlice h2 te (.arr b ep o l f) i = chk (Nat.blt i l) (bnd (h1.get b) fun bx => chk (Nat.beq bx.sz te.size) <| chk (Nat.beq bx.ep ep) (bnd (normNat (Nat.add o i)) fun k => some (Did.val (.ptr b ep k 0) h2))) := by
      rw [← e2]; rfl
    rw [this]
    exact (Ind.chk (Ind.bnd fun _ _ => Ind.chk (Ind.chk (Ind.bnd fun _ _ => Ind.some))) : Ind h1 h2 (chk (Nat.blt i l) (bnd (h1.get b) fun bx => chk (Nat.beq bx.sz te.size) <| chk (Nat.beq bx.ep ep) (bnd (normNat (Nat.add o i)) fun k => some (Did.val (.ptr b ep k 0) h1)))) _) v h' hh0
  | _ => exact Ind.none

theorem idxArray_heap {n : Nat} {te : Ty} {x : T} {i : Nat} (hl : ∀ b, boxOf x = some b → b < h1.size → h2.get b = h1.get b) : Ind h1 h2 (idxArray h1 n te x i) (idxArray h2 n te x i) := by
  unfold idxArray
  refine Ind.chk ?_
  cases x <;> first
    | exact Ind.none
    | exact Ind.bnd fun _ _ => Ind.some
    | skip
  rename_i b ep i0 j
  simp only
  cases hb : h1.get b with
  | none => intro v h' hh; simp at hh
  | some bx =>
    rw [hl b rfl (H.get_lt hb), hb]
    simp only [bnd_some]
    exact Ind.bool (Ind.bnd fun _ _ => Ind.some) (Ind.chk (Ind.bnd fun _ _ => Ind.some))

theorem items_heap {x : T} {es : List T} (hl : ∀ b, boxOf x = some b → b < h1.size → h2.get b = h1.get b) (hh : h1.items x = some es) : h2.items x = some es := by
  cases x with
  | arr b ep o l f =>
    have hh' := hh
    unfold H.items at hh' ⊢
    simp only at hh' ⊢
    obtain ⟨bx, hb, _⟩ := bnd_eq_some.1 hh'
    rw [hl b rfl (H.get_lt hb)]
    exact hh
  | _ => exact hh

theorem entries_heap {x : T} {es : List T} (hl : ∀ b, boxOf x = some b → b < h1.size → h2.get b = h1.get b) (hh : h1.entries x = some es) : h2.entries x = some es := by
  cases x with
  | map b =>
    have hh' := hh
    unfold H.entries at hh' ⊢
    simp only at hh' ⊢
    obtain ⟨bx, hb, _⟩ := bnd_eq_some.1 hh'
    rw [hl b rfl (H.get_lt hb)]
    exact hh
  | _ => exact hh

theorem sliceable_heap {u : U} {x : T} (hl : ∀ b, boxOf x = some b → b < h1.size → h2.get b = h1.get b) (hh : sliceable cx h1 u x = true) : sliceable cx h2 u x = true := by
  cases u with
  | slice e =>
    unfold sliceable at hh ⊢
    simp only at hh ⊢
    cases hte : cx.ty e with
    | none => rw [hte] at hh; exact hh
    | some te =>
      rw [hte] at hh
      cases x with
      | arr b ep o l f =>
        simp only at hh ⊢
        cases hb : h1.get b with
        | none => rw [hb] at hh; simp at hh
        | some bx => rw [hl b rfl (H.get_lt hb), hb]; rw [hb] at hh; exact hh
      | _ => exact hh
  | array n e =>
    unfold sliceable at hh ⊢
    simp only at hh ⊢
    cases hte : cx.ty e with
    | none => rw [hte] at hh; exact hh
    | some te =>
      rw [hte] at hh
      cases x with
      | ptr b ep i j =>
        simp only at hh ⊢
        cases hb : h1.get b with
        | none => rw [hb] at hh; simp at hh
        | some bx => rw [hl b rfl (H.get_lt hb), hb]; rw [hb] at hh; exact hh
      | _ => exact hh
  | _ => exact hh

theorem opH_heap {op : Op} (hne : isEff op = false) (hl : ∀ b, looksBox cx mask e h1 op = some b → b < h1.size → h2.get b = h1.get b) {v : T} {h' : H} (hh : opH op cx mask e h1 = some (.val v h')) :
    (h' = h1 ∧ opH op cx mask e h2 = some (.val v h2)) ∨
    (∃ f x, Fresh f ∧ looksBox cx mask e h1 op = some h1.size ∧ v = f h1.size ∧ h' = h1.cons x ∧ opH op cx mask e h2 = some (.val (f h2.size) (h2.cons x))) := by
  have mk : Mk h1 h2 (opH op cx mask e h1) (opH op cx mask e h2) → looksBox cx mask e h1 op = some h1.size → (h' = h1 ∧ opH op cx mask e h2 = some (.val v h2)) ∨
    (∃ f x, Fresh f ∧ looksBox cx mask e h1 op = some h1.size ∧ v = f h1.size ∧ h' = h1.cons x ∧ opH op cx mask e h2 = some (.val (f h2.size) (h2.cons x))) := fun m hb => by
    obtain ⟨f, x, k1, k2, k3, k4⟩ := m v h' hh
    exact Or.inr ⟨f, x, k1, hb, k2, k3, k4⟩
  cases op with
  | alloc t => exact mk mk_alloc rfl
  | box t x => exact mk mk_box rfl
  | buildSlice t n ps => exact mk mk_buildSlice rfl
  | makeSlice t l c => exact mk mk_makeSlice rfl
  | range t x => exact mk mk_range rfl
  | store => simp [isEff] at hne
  | next => simp [isEff] at hne
  | load t a =>
    left
    have hh : (bnd (cx.ty t) fun ty => bnd (opnd cx mask e a) fun a => val h1 (h1.load ty a)) = some (.val v h') := hh
    replace hh := bnd_eq_some.1 hh; obtain ⟨ty, hty, hh⟩ := hh
    replace hh := bnd_eq_some.1 hh; obtain ⟨p, hp, hh⟩ := hh
    obtain ⟨hv, rfl⟩ := val_eq_some.1 hh
    refine ⟨rfl, ?_⟩
    show (bnd (cx.ty t) fun ty => bnd (opnd cx mask e a) fun a => val h2 (h2.load ty a)) = some (.val v h2)
    rw [hty, hp]
    exact val_eq_some.2 ⟨load_heap (fun b hb hlt => hl b (by show bnd (opnd cx mask e a) boxOf = some b; rw [hp]; exact hb) hlt) hv, rfl⟩
  | indexAddr t x ix =>
    left
    have key : ∀ p, opnd cx mask e x = some p → ∀ b, boxOf p = some b → b < h1.size → h2.get b = h1.get b := fun p hp b hb hlt =>
      hl b (by show bnd (opnd cx mask e x) boxOf = some b; rw [hp]; exact hb) hlt
    have : Ind h1 h2 (opH (.indexAddr t x ix) cx mask e h1) (opH (.indexAddr t x ix) cx mask e h2) := by
      simp only [opH, hIndexAddr]
      refine Ind.bnd fun ty _ => Ind.bnd fun p hp => Ind.bnd fun _ _ => Ind.bnd fun i _ => ?_
      cases ty.u <;> first
        | exact Ind.none
        | exact Ind.bnd fun te _ => idxSlice_heap (key p hp)
        | exact Ind.bnd fun te _ => idxArray_heap (key p hp)
    exact this v h' hh
  | slice t x lo hi mx =>
    left
    have hh : (bnd (cx.ty t) fun ty => bnd (opnd cx mask e x) fun x => chk (sliceable cx h1 ty.u x) <| bnd (optIdx cx mask e lo) fun lo => bnd (optIdx cx mask e hi) fun hi => bnd (optIdx cx mask e mx) fun mx =>
      chk (mxOk hi mx) (val h1 (sliceT (asSlice ty.u x) lo hi mx))) = some (.val v h') := hh
    replace hh := bnd_eq_some.1 hh; obtain ⟨ty, hty, hh⟩ := hh
    replace hh := bnd_eq_some.1 hh; obtain ⟨p, hp, hh⟩ := hh
    obtain ⟨hs, hh⟩ := chk_eq_some.1 hh
    have hs2 : sliceable cx h2 ty.u p = true := sliceable_heap (fun b hb hlt => hl b (by show bnd (opnd cx mask e x) boxOf = some b; rw [hp]; exact hb) hlt) hs
    have : Ind h1 h2 (bnd (optIdx cx mask e lo) fun lo => bnd (optIdx cx mask e hi) fun hi => bnd (optIdx cx mask e mx) fun mx => chk (mxOk hi mx) (val h1 (sliceT (asSlice ty.u p) lo hi mx)))
      (bnd (optIdx cx mask e lo) fun lo => bnd (optIdx cx mask e hi) fun hi => bnd (optIdx cx mask e mx) fun mx => chk (mxOk hi mx) (val h2 (sliceT (asSlice ty.u p) lo hi mx))) :=
      Ind.bnd fun _ _ => Ind.bnd fun _ _ => Ind.bnd fun _ _ => Ind.chk Ind.val
    obtain ⟨k1, k2⟩ := this v h' hh
    refine ⟨k1, ?_⟩
    show (bnd (cx.ty t) fun ty => bnd (opnd cx mask e x) fun x => chk (sliceable cx h2 ty.u x) <| bnd (optIdx cx mask e lo) fun lo => bnd (optIdx cx mask e hi) fun hi => bnd (optIdx cx mask e mx) fun mx =>
      chk (mxOk hi mx) (val h2 (sliceT (asSlice ty.u x) lo hi mx))) = some (.val v h2)
    rw [hty, hp]
    simp only [bnd_some, hs2, chk_true]
    exact k2
  | «call» c =>
    left
    have : Ind h1 h2 (opH (.call c) cx mask e h1) (opH (.call c) cx mask e h2) := by
      simp only [opH, hCall]
      refine Ind.bnd fun args _ => ?_
      cases hc : c.callee with
      | invoke x m => exact Ind.none
      | value f => simp [isEff, hc] at hne
      | builtin b =>
        cases b <;> simp [isEff, hc] at hne <;> simp only [builtinT]
        case len =>
          match args with
          | [] => exact Ind.none
          | [x] =>
            simp only [bLen]
            refine Ind.bnd fun _ _ => Ind.bnd fun ty _ => ?_
            cases ty.u <;> first
              | exact Ind.none
              | exact Ind.val
              | (cases x <;> first | exact Ind.none | exact Ind.val)
          | _ :: _ :: _ => exact Ind.none
        all_goals
          match args with
          | [] => exact Ind.none
          | [x] => exact Ind.none
          | [x, y] => exact Ind.val
          | _ :: _ :: _ :: _ => exact Ind.none
    exact this v h' hh
  | binOp op t x y u =>
    left
    have : Ind h1 h2 (opH (.binOp op t x y u) cx mask e h1) (opH (.binOp op t x y u) cx mask e h2) := by
      cases op <;> simp only [opH, hEq, hBin] <;> first
        | exact Ind.bnd fun _ _ => Ind.bnd fun _ _ => Ind.bnd fun _ _ => Ind.chk (Ind.bnd fun _ _ => Ind.val)
        | exact Ind.bnd fun _ _ => Ind.bnd fun _ _ => Ind.val
    exact this v h' hh
  | move x => left; exact (show Ind h1 h2 (opH (.move x) cx mask e h1) (opH (.move x) cx mask e h2) from Ind.val) v h' hh
  | assign x => left; exact (show Ind h1 h2 (opH (.assign x) cx mask e h1) (opH (.assign x) cx mask e h2) from Ind.val) v h' hh
  | pick c a b =>
    left
    have : Ind h1 h2 (opH (.pick c a b) cx mask e h1) (opH (.pick c a b) cx mask e h2) := by
      simp only [opH, hPick]
      refine Ind.bnd fun v _ => ?_
      cases v <;> first | exact Ind.none | exact Ind.bool Ind.val Ind.val
    exact this v h' hh
  | build t ps =>
    left
    have : Ind h1 h2 (opH (.build t ps) cx mask e h1) (opH (.build t ps) cx mask e h2) := by
      simp only [opH, hBuild]
      refine Ind.bnd fun ty _ => Ind.bnd fun _ _ => ?_
      cases ty.u <;> first | exact Ind.none | exact Ind.bnd fun _ _ => Ind.val | exact Ind.bnd fun _ _ => Ind.bnd fun _ _ => Ind.val
    exact this v h' hh
  | nilCheck x =>
    left
    have : Ind h1 h2 (opH (.nilCheck x) cx mask e h1) (opH (.nilCheck x) cx mask e h2) := by
      simp only [opH, hNilCheck]
      refine Ind.bnd fun v _ => ?_
      cases v <;> first | exact Ind.none | exact Ind.some
    exact this v h' hh
  | unOp op t x => left; exact (show Ind h1 h2 (opH (.unOp op t x) cx mask e h1) (opH (.unOp op t x) cx mask e h2) from Ind.bnd fun _ _ => Ind.val) v h' hh
  | convert s d x =>
    left
    have hh : (bnd (cx.ty s) fun _ => bnd (opnd cx mask e x) fun a => bnd (cx.ty d) fun dd => match dd.u with
      | .slice _ => val h1 (bytesT cx d a)
      | .str => (match a with
        | .str _ => val h1 (conv cx d a)
        | _ => val h1 (strT cx h1 s a))
      | _ => val h1 (conv cx d a)) = some (.val v h') := hh
    show h' = h1 ∧ (bnd (cx.ty s) fun _ => bnd (opnd cx mask e x) fun a => bnd (cx.ty d) fun dd => match dd.u with
      | .slice _ => val h2 (bytesT cx d a)
      | .str => (match a with
        | .str _ => val h2 (conv cx d a)
        | _ => val h2 (strT cx h2 s a))
      | _ => val h2 (conv cx d a)) = some (.val v h2)
    obtain ⟨ts, hts, hh⟩ := bnd_eq_some.1 hh
    obtain ⟨p, hp, hh⟩ := bnd_eq_some.1 hh
    obtain ⟨td, htd, hh⟩ := bnd_eq_some.1 hh
    rw [hts, hp, htd]
    simp only [bnd_some]
    have hstr : ∀ {u : T}, strT cx h1 s p = some u → strT cx h2 s p = some u := by
      intro u hu
      unfold strT at hu ⊢
      obtain ⟨t2, ht2, hu⟩ := bnd_eq_some.1 hu
      rw [ht2]
      simp only [bnd_some]
      cases hut : t2.u <;> rw [hut] at hu <;> simp only [reduceCtorEq] at hu ⊢
      obtain ⟨te, hte, hu⟩ := bnd_eq_some.1 hu
      rw [hte]
      simp only [bnd_some]
      cases hute : te.u <;> rw [hute] at hu <;> simp only [reduceCtorEq] at hu ⊢
      obtain ⟨g1, hu⟩ := chk_eq_some.1 hu
      rw [g1, chk_true]
      obtain ⟨es, hes, hu⟩ := bnd_eq_some.1 hu
      rw [items_heap (fun b hb hlt => hl b (by show bnd (opnd cx mask e x) boxOf = some b; rw [hp]; exact hb) hlt) hes]
      exact hu
    cases hud : td.u <;> rw [hud] at hh <;> simp only at hh ⊢
    case str =>
      cases p <;> simp only at hh ⊢ <;> (obtain ⟨hv, rfl⟩ := val_eq_some.1 hh) <;> first
        | exact ⟨rfl, val_eq_some.2 ⟨hstr hv, rfl⟩⟩
        | exact ⟨rfl, val_eq_some.2 ⟨hv, rfl⟩⟩
    all_goals
      obtain ⟨hv, rfl⟩ := val_eq_some.1 hh
      exact ⟨rfl, val_eq_some.2 ⟨hv, rfl⟩⟩
  | lookup t x ix ok =>
    left
    have : Ind h1 h2 (opH (.lookup t x ix ok) cx mask e h1) (opH (.lookup t x ix ok) cx mask e h2) := by
      simp only [opH, hLookup]
      refine Ind.bnd fun ty _ => ?_
      cases ty.u <;> first
        | exact Ind.none
        | skip
      refine Ind.bnd fun tk _ => Ind.bnd fun te _ => Ind.bnd fun p hp => Ind.bnd fun k _ => Ind.chk ?_
      intro v h' hh
      obtain ⟨es, hes, hh⟩ := bnd_eq_some.1 hh
      have hes2 := entries_heap (h2 := h2) (fun b hb hlt => hl b (by show bnd (opnd cx mask e x) boxOf = some b; rw [hp]; exact hb) hlt) hes
      rw [hes2]
      obtain ⟨r, hr, hh⟩ := bnd_eq_some.1 hh
      simp only [bnd_some, hr]
      cases r with
      | none => exact (Ind.bool Ind.val Ind.val : Ind h1 h2 _ _) v h' hh
      | some q => obtain ⟨i, u⟩ := q; exact (Ind.bool Ind.val Ind.val : Ind h1 h2 _ _) v h' hh
    exact this v h' hh
  | makeMap t r => exact mk mk_makeMap rfl
  | mapUpdate => simp [isEff] at hne
  | makeInterface t x =>
    left
    have : Ind h1 h2 (opH (.makeInterface t x) cx mask e h1) (opH (.makeInterface t x) cx mask e h2) := by
      simp only [opH, hIface]
      refine Ind.bnd fun ty _ => ?_
      cases ty.u <;> first | exact Ind.none | exact Ind.bnd fun _ _ => Ind.chk Ind.val
    exact this v h' hh
  | makeFunc fn a b =>
    left
    have : Ind h1 h2 (opH (.makeFunc fn a b) cx mask e h1) (opH (.makeFunc fn a b) cx mask e h2) := by
      simp only [opH, hFunc]
      cases fn <;> first
        | exact Ind.none
        | (cases a.toList <;> first | exact Ind.none | exact Ind.bnd fun _ _ => Ind.val)
    exact this v h' hh
  | fieldAddr t x f =>
    left
    have : Ind h1 h2 (opH (.fieldAddr t x f) cx mask e h1) (opH (.fieldAddr t x f) cx mask e h2) := by
      simp only [opH, hFieldAddr]
      refine Ind.bnd fun _ _ => Ind.bnd fun v _ => ?_
      cases v <;> first | exact Ind.none | exact Ind.bnd fun _ _ => Ind.some
    exact this v h' hh
  | field t x f =>
    left
    have : Ind h1 h2 (opH (.field t x f) cx mask e h1) (opH (.field t x f) cx mask e h2) := by
      simp only [opH, hField]
      refine Ind.bnd fun _ _ => Ind.bnd fun _ _ => Ind.bnd fun v _ => ?_
      cases v <;> first | exact Ind.none | exact Ind.bnd fun _ _ => Ind.val
    exact this v h' hh
  | index t x ix =>
    left
    have : Ind h1 h2 (opH (.index t x ix) cx mask e h1) (opH (.index t x ix) cx mask e h2) := by
      simp only [opH, hIndex]
      refine Ind.bnd fun ty _ => Ind.bnd fun v _ => Ind.bnd fun _ _ => Ind.bnd fun _ _ => ?_
      cases ty.u <;> first
        | exact Ind.none
        | (cases v <;> first | exact Ind.none | exact Ind.bnd fun _ _ => Ind.val | exact Ind.bnd fun _ _ => Ind.chk (Ind.bnd fun _ _ => Ind.val))
    exact this v h' hh
  | extract x i =>
    left
    have : Ind h1 h2 (opH (.extract x i) cx mask e h1) (opH (.extract x i) cx mask e h2) := by
      simp only [opH, hExtract]
      refine Ind.bnd fun v _ => ?_
      cases v <;> first | exact Ind.none | exact Ind.val
    exact this v h' hh
  | _ => exact absurd hh (by simp [opH])
end
end Go.TI
