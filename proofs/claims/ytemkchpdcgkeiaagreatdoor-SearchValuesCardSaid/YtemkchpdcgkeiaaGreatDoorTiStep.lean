/- One operation: every handler at once; what a call comes to. -/
import Derived.Test.YtemkchpdcgkeiaaGreatDoorTiMap
namespace Go.TI
set_option linter.unusedSimpArgs false
set_option linter.unusedVariables false
set_option linter.unusedVariables false

/-- What an operation or a call comes to: a value, at once or by a call that returns. -/
def Ran (P : Program) (K : Value → World → Prop) : Result Next → Prop
  | .ok (.value v) w' => K v w'
  | .ok .skip w' => K Go.undef w'
  | .ok (.enter f args) w' => Calls P f args w' fun
      | .returned v, w'' => K v w''
      | _, _ => False
  | _ => False

theorem Ran.mono {P : Program} {K K' : Value → World → Prop} {r : Result Next} (h : Ran P K r) (hk : ∀ v w, K v w → K' v w) : Ran P K' r := by
  cases r with
  | halt x w => exact h
  | ok n w =>
    cases n <;> simp only [Ran] at h ⊢ <;> first | exact h | exact hk _ _ h | skip
    exact Calls.mono h fun e w' he => by cases e <;> first | exact hk _ _ he | exact he

theorem Ran.wp {P : Program} {o : Oper} {a : Act} {w : World} {K : Value → World → Prop} {next : Act → World → Prop} {Q : Exit → Act → World → Prop}
    (h : Ran P K ((execOp a.eval o).run P w)) (hk : ∀ v w', K v w' → next (a.put o.dst v) w') : o.wp P a w next Q := by
  unfold Oper.wp
  generalize (execOp a.eval o).run P w = r at h
  cases r with
  | halt x w => exact h.elim
  | ok n w =>
    cases n <;> simp only [Ran] at h <;> simp only [Oper.upon] <;> first | exact h.elim | exact hk _ _ h | skip
    exact Calls.mono h fun e w' he => by cases e <;> first | exact hk _ _ he | exact he.elim

/-- A call that comes to a value has one. -/
theorem Ran.some {P : Program} {K : Value → World → Prop} {r : Result Next} (h : Ran P K r) : ∃ v w, K v w := by
  cases r with
  | halt x w => exact h.elim
  | ok n w =>
    cases n <;> simp only [Ran] at h <;> first | exact h.elim | exact ⟨_, _, h⟩ | skip
    obtain ⟨e, w', fr, he, _⟩ := h []
    cases e <;> first | exact ⟨_, _, he⟩ | exact he.elim

section
variable {P : Program} {cx : Ctx} {base : Nat} {w : World} {μ : Mu} {h h' : H} {mask : Nat} {e : Env} {a : Act} {o : Oper}

/-- The model's value and world behind an operation or a call. -/
def After (cx : Ctx) (base : Nat) (w : World) (μ : Mu) (n : Nat) (v : T) (h' : H) (c : Value) (w' : World) : Prop :=
  ∃ μ', RelV w'.heap μ' v c ∧ St cx base w'.heap μ' h' ∧ ExtW w μ w' μ' ∧ Dom μ μ' n h'.size

theorem Done.ran {r : Result Next} {n : Nat} {v : T} (h : Done cx base w μ n r v h') : Ran P (After cx base w μ n v h') r := by
  obtain ⟨c, w', μ', h1, h2, h3, h4, h5⟩ := h
  rcases h1 with rfl | ⟨rfl, rfl⟩
  · exact ⟨μ', h2, h3, h4, h5⟩
  · exact ⟨μ', h2, h3, h4, h5⟩

theorem hCall_val (tys : TysOk P cx) (s : St cx base w.heap μ h) (r : RelE w.heap μ mask e a.tmps) {c : Call} (ho : o.op = .call c) {v : T}
    (hh : hCall c cx mask e h = some (.val v h')) : Done cx base w μ h.size ((execOp a.eval o).run P w) v h' := by
  replace hh := bnd_eq_some.1 hh; obtain ⟨args, hargs, hh⟩ := hh
  cases hc : c.callee with
  | builtin b => rw [hc] at hh; exact builtin_sound tys s r ho hc hargs hh
  | invoke x m => rw [hc] at hh; simp at hh
  | value f =>
    rw [hc] at hh; simp only at hh
    replace hh := bnd_eq_some.1 hh; obtain ⟨q, hq, hh⟩ := hh
    cases q <;> simp only [reduceCtorEq] at hh
    replace hh := bnd_eq_some.1 hh; obtain ⟨l, hl, hh⟩ := hh
    simp at hh

theorem builtin_no_call {b : Builtin} {ts : List TypeId} {args : List T} {f : FuncId} {l : List T} (hh : builtinT b cx h ts args = some (.call f l)) : False := by
  have hval : ∀ {x : Option T}, val h x = some (.call f l) → False := fun hx => val_ne_call hx
  have hnew : ∀ {x : Option (T × H)}, valNew x = some (.call f l) → False := by
    intro x hx
    unfold valNew at hx
    cases x <;> simp [two] at hx
  cases b <;> simp only [builtinT, reduceCtorEq] at hh
  case len =>
    split at hh
    · replace hh := bnd_eq_some.1 hh; obtain ⟨t, _, hh⟩ := hh
      replace hh := bnd_eq_some.1 hh; obtain ⟨ty, _, hh⟩ := hh
      split at hh
      · split at hh
        · exact hval hh
        · simp at hh
      · split at hh <;> first | exact hval hh | (simp at hh)
      · exact hval hh
      · simp at hh
    · simp at hh
  case append =>
    split at hh
    · split at hh
      · replace hh := bnd_eq_some.1 hh; obtain ⟨t, _, hh⟩ := hh
        replace hh := bnd_eq_some.1 hh; obtain ⟨ty, _, hh⟩ := hh
        obtain ⟨_, hh⟩ := chk_eq_some.1 hh
        exact hnew hh
      · simp at hh
    · simp at hh
  case clear =>
    split at hh
    · split at hh
      · replace hh := bnd_eq_some.1 hh; obtain ⟨te, _, hh⟩ := hh
        split at hh
        · rename_i es _ ; cases es <;> simp at hh
        · simp at hh
        · rename_i m _
          cases m with
          | zero =>
            have hh : some (Did.val .undef h) = some (.call f l) := hh
            simp at hh
          | succ m =>
            replace hh := bnd_eq_some.1 hh; obtain ⟨bx, _, hh⟩ := hh
            obtain ⟨sz, ep', ver, ex, it, elems⟩ := bx
            obtain ⟨_, hh⟩ := chk_eq_some.1 hh
            obtain ⟨_, hh⟩ := chk_eq_some.1 hh
            cases it with
            | true => simp at hh
            | false =>
              replace hh := bnd_eq_some.1 hh; obtain ⟨_, _, hh⟩ := hh
              replace hh := bnd_eq_some.1 hh; obtain ⟨_, _, hh⟩ := hh
              replace hh := bnd_eq_some.1 hh; obtain ⟨_, _, hh⟩ := hh
              simp at hh
        · simp at hh
      · simp at hh
    · simp at hh
  case min => split at hh <;> first | exact hval hh | (simp at hh)
  case max => split at hh <;> first | exact hval hh | (simp at hh)

theorem hCall_call (s : St cx base w.heap μ h) (r : RelE w.heap μ mask e a.tmps) {c : Call} (ho : o.op = .call c) {f : FuncId} {l : List T}
    (hh : hCall c cx mask e h = some (.call f l)) : ∃ cargs : Array Value, RelL w.heap μ l cargs.toList ∧ (execOp a.eval o).run P w = (callFunc f cargs).run P w := by
  replace hh := bnd_eq_some.1 hh; obtain ⟨args, hargs, hh⟩ := hh
  have hL := opnds_sound s r hargs
  cases hc : c.callee with
  | builtin b => rw [hc] at hh; exact (builtin_no_call hh).elim
  | invoke x m => rw [hc] at hh; simp at hh
  | value g =>
    rw [hc] at hh; simp only at hh
    replace hh := bnd_eq_some.1 hh; obtain ⟨q, hq, hh⟩ := hh
    have hv := opnd_sound s r hq
    cases q <;> simp only [reduceCtorEq] at hh
    rename_i f' cap
    replace hh := bnd_eq_some.1 hh; obtain ⟨l', hl, hh⟩ := hh
    simp only [Option.some.injEq, Did.call.injEq] at hh
    obtain ⟨rfl, rfl⟩ := hh
    obtain ⟨cs, e1, hL2⟩ := hv.inv_func
    rw [appN_eq] at hl
    simp only [Option.some.injEq] at hl
    refine ⟨c.args.map a.eval ++ cs, ?_, ?_⟩
    · rw [← hl]; simpa using hL.append hL2
    · simp [execOp, ho, resolve, hc, e1, Deferred.ofValue, invoke]

/-- An operation that comes to a value. -/
theorem opH_val (tys : TysOk P cx) (s : St cx base w.heap μ h) (r : RelE w.heap μ mask e a.tmps) {v : T}
    (hh : opH o.op cx mask e h = some (.val v h')) : Done cx base w μ h.size ((execOp a.eval o).run P w) v h' := by
  cases ho : o.op <;> rw [ho] at hh <;> simp only [opH, reduceCtorEq] at hh
  case move x => exact hMove_sound s r (.inl ho) hh
  case assign x => exact hMove_sound s r (.inr ho) hh
  case pick => exact hPick_sound s r ho hh
  case alloc => exact hAlloc_sound tys s ho hh
  case box => exact hBox_sound s r ho hh
  case build => exact hBuild_sound tys s r ho hh
  case buildSlice => exact hBuildSlice_sound tys s r ho hh
  case load => exact hLoad_sound tys s r ho hh
  case store => exact hStore_sound tys s r ho hh
  case nilCheck => exact hNilCheck_sound s r ho hh
  case binOp op t x y u =>
    cases op <;> first
      | exact hEq_sound tys (neg := false) rfl s r ho hh
      | exact hEq_sound tys (neg := true) rfl s r ho hh
      | exact hBin_sound (by simp) (by simp) s r ho hh
  case unOp => exact hUn_sound s r ho hh
  case convert src dst x =>
    replace hh := bnd_eq_some.1 hh; obtain ⟨ts, hts, hh⟩ := hh
    replace hh := bnd_eq_some.1 hh; obtain ⟨p, hp, hh⟩ := hh
    replace hh := bnd_eq_some.1 hh; obtain ⟨d, hd, hh⟩ := hh
    split at hh
    · obtain ⟨hv, hq⟩ := val_eq_some.1 hh
      exact bytesT_sound tys s r ho ⟨ts, hts⟩ hp hv hq
    · rename_i hu
      split at hh
      · obtain ⟨hv, hq⟩ := val_eq_some.1 hh
        exact hConv_sound tys s r ho ⟨ts, hts⟩ hp hv hq
      · obtain ⟨hv, hq⟩ := val_eq_some.1 hh
        obtain ⟨dd, hdd, hud⟩ := und_of (tys.ty _ _ hd)
        rw [hu] at hud
        have := uOf_str hud; subst this
        exact strT_sound tys s r ho hdd hp hv hq
    · obtain ⟨hv, hq⟩ := val_eq_some.1 hh
      exact hConv_sound tys s r ho ⟨ts, hts⟩ hp hv hq
  case makeInterface => exact hIface_sound tys s r ho hh
  case makeFunc => exact hFunc_sound s r ho hh
  case makeSlice => exact hMakeSlice_sound tys s r ho hh
  case slice => exact hSlice_sound tys s r ho hh
  case fieldAddr => exact hFieldAddr_sound tys s r ho hh
  case field => exact hField_sound tys s r ho hh
  case indexAddr => exact hIndexAddr_sound tys s r ho hh
  case index => exact hIndex_sound tys s r ho hh
  case extract => exact hExtract_sound s r ho hh
  case makeMap => exact hMakeMap_sound tys s ho hh
  case lookup => exact hLookup_sound tys s r ho hh
  case mapUpdate => exact hMapUpdate_sound tys s r ho hh
  case range t x =>
    replace hh := bnd_eq_some.1 hh; obtain ⟨ty, hty, hh⟩ := hh
    obtain ⟨i, d, z, h1, h2, h3, h4, h5, _⟩ := (tys.ty t ty hty).unfold
    split at hh
    · rename_i hu
      rw [hu] at h5
      have := uOf_str h5; subst this
      exact hRange_sound s r ho h2 hh
    · simp at hh
  case next => exact hNext_sound s r ho hh
  case «call» => exact hCall_val tys s r ho hh

/-- No call is to be made. -/
def NC (x : Option Did) : Prop := ∀ f l, x ≠ some (.call f l)
theorem NC.none : NC none := fun _ _ => by simp
theorem NC.val {x : Option T} : NC (val h x) := fun _ _ => val_ne_call
theorem NC.some {v : T} : NC (some (.val v h)) := fun _ _ => by simp
theorem NC.new {x : Option (T × H)} : NC (valNew x) := fun _ _ => by unfold valNew; cases x <;> simp [two]
theorem NC.bnd {α : Type} {x : Option α} {f : α → Option Did} (h : ∀ y, NC (f y)) : NC (bnd x f) := by
  cases x with
  | none => exact NC.none
  | some y => exact h y
theorem NC.chk {b : Bool} {x : Option Did} (h : NC x) : NC (chk b x) := by
  cases b with
  | false => exact NC.none
  | true => exact h
theorem NC.bool {b : Bool} {x y : Option Did} (hx : NC x) (hy : NC y) : NC (Bool.casesOn b x y) := by
  cases b <;> assumption

theorem NC.opt {α : Type} {x : Option α} {y : Option Did} {f : α → Option Did} (hy : NC y) (hf : ∀ z, NC (f z)) : NC (Option.casesOn x y f) := by
  cases x with
  | none => exact hy
  | some z => exact hf z
theorem nc_other {op : Op} (hc : ∀ c, op ≠ .call c) : NC (opH op cx mask e h) := by
  cases op <;> simp only [opH] <;> first
    | exact absurd rfl (hc _)
    | exact NC.none
    | skip
  all_goals
    first
      | unfold hMove | unfold hPick | unfold hAlloc | unfold hBox | unfold hBuild | unfold hBuildSlice | unfold hLoad | unfold hStore | unfold hNilCheck | unfold hUn | unfold hConv | unfold hIface | unfold hFunc
      | unfold hMakeSlice | unfold hSlice | unfold hFieldAddr | unfold hField | unfold hIndexAddr | unfold hIndex | unfold hExtract | unfold hRangeAt | unfold hNext | unfold hMakeMap | unfold hLookup | unfold hMapUpdate | skip
  case binOp op t x y u =>
    cases op <;> first
      | (simp only []; unfold hEq; exact NC.bnd fun _ => NC.bnd fun _ => NC.bnd fun _ => NC.chk (NC.bnd fun _ => NC.val))
      | (simp only []; unfold hBin; exact NC.bnd fun _ => NC.bnd fun _ => NC.val)
  all_goals
    repeat first
      | exact NC.none
      | exact NC.val
      | exact NC.some
      | exact NC.new
      | refine NC.bnd fun _ => ?_
      | refine NC.chk ?_
      | refine NC.bool ?_ ?_
      | split
      | unfold idxSlice
      | unfold idxArray
      | unfold hRange
      | (refine NC.opt ?_ fun _ => ?_)
      | (unfold two)

theorem opH_call (s : St cx base w.heap μ h) (r : RelE w.heap μ mask e a.tmps) {f : FuncId} {l : List T}
    (hh : opH o.op cx mask e h = some (.call f l)) : (∃ c, o.op = .call c) ∧ ∃ cargs : Array Value, RelL w.heap μ l cargs.toList ∧ (execOp a.eval o).run P w = (callFunc f cargs).run P w := by
  by_cases hc : ∃ c, o.op = .call c
  · obtain ⟨c, ho⟩ := hc
    rw [ho] at hh
    exact ⟨⟨c, ho⟩, hCall_call s r ho hh⟩
  · exact absurd hh (nc_other (fun c hq => hc ⟨c, hq⟩) f l)
end
end Go.TI
