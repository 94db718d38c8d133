/- Calls. -/
import Derived.Test.YtemkchpdcgkeiaaGreatDoorTiDraw3
namespace Go.TI
set_option linter.unusedSimpArgs false
set_option linter.unusedVariables false
set_option linter.unusedVariables false
section
variable {P : Program} {cx : Ctx} {cf : CallF} {base mask m : Nat} {w0 w : World} {μ0 μ : Mu} {h0 h h' : H} {e e' : Env} {a : Act}

theorem oneOrTuple_sound {vs : List T} {cs : Array Value} {hp : Array Obj} (hL : RelL hp μ vs cs.toList) : RelV hp μ (oneOrTuple vs) (if h : cs.size = 1 then cs[0] else .tuple cs) := by
  have htup : ∀ (hne : cs.size ≠ 1), RelV hp μ (.tuple vs) (if h : cs.size = 1 then cs[0] else .tuple cs) := by
    intro hne
    rw [dif_neg hne]
    exact .tuple vs cs (by simpa using hL.1.symm) fun k v hk => by simpa [Array.getD_eq_getD_getElem?, List.getD] using hL.2 k v hk
  have hlen := hL.1
  match vs, hL, hlen, htup with
  | [], hL, hlen, htup => exact htup (by simp at hlen; omega)
  | [v], hL, hlen, htup =>
    have h1 : cs.size = 1 := by simpa using hlen.symm
    rw [dif_pos h1]
    have := hL.2 0 v (by simp)
    simpa [oneOrTuple, List.getD, h1] using this
  | v1 :: v2 :: vs, hL, hlen, htup => exact htup (by simp at hlen; omega)

/-- What one result is. -/
def resultOf (tmps : Array Value) : ResultVar → Sem Value
  | .tmp t => pure (tmps.getD t Go.undef)
  | .cell b t => do loadVar t (← asAddr (tmps.getD b Go.undef))

theorem results_eq (fn : Func) (tmps : Array Value) : results fn tmps = (do let vs ← fn.results.mapM (resultOf tmps); pure (if h : vs.size = 1 then vs[0] else .tuple vs)) := by
  unfold results
  congr 1

theorem results_list (tys : TysOk P cx) (s : St cx base w.heap μ h) (r : RelE w.heap μ mask e a.tmps) : ∀ (l : List ResultVar) (vs : List T), resultsT cx mask e h l = some vs →
    ∃ cs : List Value, RelL w.heap μ vs cs ∧ (l.mapM (resultOf a.tmps)).run P w = .ok cs w := by
  intro l
  induction l with
  | nil =>
    intro vs hh
    have hh : some [] = some vs := hh
    simp only [Option.some.injEq] at hh; subst hh
    exact ⟨[], RelL.nil, by simp⟩
  | cons rv l ih =>
    intro vs hh
    unfold resultsT at hh
    rw [mapOpt_cons] at hh
    replace hh := bnd_eq_some.1 hh; obtain ⟨v, hv, hh⟩ := hh
    replace hh := bnd_eq_some.1 hh; obtain ⟨vs', hvs, hh⟩ := hh
    simp only [Option.some.injEq] at hh; subst hh
    obtain ⟨cs, hL, hrun⟩ := ih vs' hvs
    have key : ∀ d, (resultOf a.tmps rv).run P w = .ok d w → RelV w.heap μ v d → ∃ cs : List Value, RelL w.heap μ (v :: vs') cs ∧ ((rv :: l).mapM (resultOf a.tmps)).run P w = .ok cs w := by
      intro d hd hr
      refine ⟨d :: cs, RelL.cons hr hL, ?_⟩
      rw [List.mapM_cons, Sem.run_bind, hd, Result.andThen_ok, Sem.run_bind, hrun, Result.andThen_ok, Sem.run_pure]
    cases rv with
    | tmp t =>
      have hv : e.get mask t = some v := hv
      exact key _ (by simp only [resultOf, Sem.run_pure]) (r t v hv)
    | cell b t =>
      have hv : (bnd (e.get mask b) fun p => bnd (cx.ty t) fun ty => h.load ty p) = some v := hv
      replace hv := bnd_eq_some.1 hv; obtain ⟨p, hp, hv⟩ := hv
      replace hv := bnd_eq_some.1 hv; obtain ⟨ty, hty, hv⟩ := hv
      obtain ⟨ad, d, e1, e2, e3⟩ := load_sound (tys.ty t ty hty) s (r b p hp) hv
      exact key d (by simp only [resultOf, e1, asAddr, Sem.run_bind, Sem.run_pure, Result.andThen_ok, e2]) e3

theorem results_sound (tys : TysOk P cx) (s : St cx base w.heap μ h) (r : RelE w.heap μ mask e a.tmps) {fn : Func} {vs : List T} (hh : resultsT cx mask e h fn.results.toList = some vs) :
    ∃ c, (results fn a.tmps).run P w = .ok c w ∧ RelV w.heap μ (oneOrTuple vs) c := by
  obtain ⟨cs, hL, hrun⟩ := results_list (P := P) tys s r _ _ hh
  refine ⟨_, ?_, oneOrTuple_sound (cs := cs.toArray) (by simpa using hL)⟩
  rw [results_eq]
  have : fn.results.mapM (resultOf a.tmps) = List.toArray <$> fn.results.toList.mapM (resultOf a.tmps) := by
    rw [← List.mapM_toArray]
  rw [this, Sem.run_bind, Sem.run_map, hrun]
  rfl

/-! ### the beginning of a call -/

theorem initVars_look : ∀ (n i : Nat) (args : List T) (vars : Vars), initVars mask n i args = some vars → ∀ s v, look vars s = some v → (∃ k, s = i + k ∧ k < n ∧ (args[k]? = some v ∨ (args.length ≤ k ∧ v = .undef))) := by
  intro n
  induction n with
  | zero =>
    intro i args vars hh s v hv
    have hh : some Vars.nil = some vars := hh
    simp only [Option.some.injEq] at hh; subst hh
    simp [look] at hv
  | succ n ih =>
    intro i args vars hh s v hv
    have hh : (bnd (normNat (Nat.succ i)) fun i' => @List.rec T (fun _ => Option Vars)
      (@Bool.rec (fun _ => Option Vars) (initVars mask n i' []) (bnd (initVars mask n i' []) fun t => some (.cons i .undef t)) (lasts mask i))
      (fun a r _ => bnd (initVars mask n i' r) fun t => some (.cons i a t)) args) = some vars := hh
    simp only [normNat_eq, bnd_some] at hh
    have rest : ∀ {r : List T} {t : Vars}, initVars mask n (i + 1) r = some t → look t s = some v → ∃ k, s = i + (k + 1) ∧ k < n ∧ (r[k]? = some v ∨ (r.length ≤ k ∧ v = .undef)) := by
      intro r t ht hl
      obtain ⟨k, h1, h2, h3⟩ := ih (i + 1) r t ht s v hl
      exact ⟨k, by omega, h2, h3⟩
    cases args with
    | nil =>
      simp only at hh
      cases hl : lasts mask i with
      | false =>
        rw [hl] at hh
        obtain ⟨k, h1, h2, h3⟩ := rest hh hv
        refine ⟨k + 1, h1, by omega, .inr ?_⟩
        rcases h3 with h3 | h3
        · simp at h3
        · exact ⟨by simp, h3.2⟩
      | true =>
        rw [hl] at hh
        replace hh := bnd_eq_some.1 hh; obtain ⟨t, ht, hh⟩ := hh
        simp only [Option.some.injEq] at hh; subst hh
        rw [look_cons] at hv
        split at hv
        · rename_i hs
          simp only [Option.some.injEq] at hv
          exact ⟨0, by omega, by omega, .inr ⟨by simp, hv.symm⟩⟩
        · obtain ⟨k, h1, h2, h3⟩ := rest ht hv
          refine ⟨k + 1, h1, by omega, .inr ?_⟩
          rcases h3 with h3 | h3
          · simp at h3
          · exact ⟨by simp, h3.2⟩
    | cons x r =>
      simp only at hh
      replace hh := bnd_eq_some.1 hh; obtain ⟨t, ht, hh⟩ := hh
      simp only [Option.some.injEq] at hh; subst hh
      rw [look_cons] at hv
      split at hv
      · rename_i hs
        simp only [Option.some.injEq] at hv; subst hv
        exact ⟨0, by omega, by omega, .inl (by simp)⟩
      · obtain ⟨k, h1, h2, h3⟩ := rest ht hv
        refine ⟨k + 1, h1, by omega, ?_⟩
        rcases h3 with h3 | h3
        · exact .inl (by simpa using h3)
        · exact .inr ⟨by simp; omega, h3.2⟩

theorem init_sound {n : Nat} {args : List T} {vars : Vars} {hp : Array Obj} {cargs : Array Value} (hL : RelL hp μ args cargs.toList) (hh : initVars mask n 0 args = some vars) :
    RelE hp μ mask ⟨vars, .nil⟩ (cargs ++ Array.replicate (n - cargs.size) Go.undef) := by
  intro s v hv
  have hv : @Bool.rec (fun _ => Option T) (look .nil s) (look vars s) (lasts mask s) = some v := hv
  cases hl : lasts mask s with
  | false => rw [hl] at hv; simp [look] at hv
  | true =>
    rw [hl] at hv
    obtain ⟨k, h1, h2, h3⟩ := initVars_look n 0 args vars hh s v hv
    have hs : s = k := by omega
    subst hs
    have hlen : args.length = cargs.size := by simpa using hL.1
    rcases h3 with h3 | ⟨h3, rfl⟩
    · have hlt : s < args.length := by
        rcases Nat.lt_or_ge s args.length with h | h
        · exact h
        · rw [List.getElem?_eq_none h] at h3; simp at h3
      have hr := hL.2 s v h3
      have : (cargs ++ Array.replicate (n - cargs.size) Go.undef).getD s Go.undef = cargs.toList.getD s Go.undef := by
        rw [Array.getD_eq_getD_getElem?, Array.getElem?_append_left (by omega)]
        simp [List.getD]
      rw [this]; exact hr
    · have : (cargs ++ Array.replicate (n - cargs.size) Go.undef).getD s Go.undef = Go.undef := by
        rw [Array.getD_eq_getD_getElem?, Array.getElem?_append_right (by omega)]
        rcases Nat.lt_or_ge (s - cargs.size) (n - cargs.size) with h | h
        · simp [h]
        · rw [Array.getElem?_eq_none (by simpa using h)]; rfl
      rw [this]; exact .undef

theorem okCode_mono {m m' : Nat} {d : Array Oper → Bool} (hm : m ≤ m') : ∀ (c : Code), okCode m d c = true → okCode m' d c = true := by
  intro c
  induction c with
  | region id ops draw =>
    intro h
    simp only [okCode, Bool.and_eq_true] at h ⊢
    refine ⟨?_, h.2⟩
    have h1 := h.1
    unfold dstB at h1 ⊢
    rw [List.all_eq_true] at h1 ⊢
    intro o ho
    have := h1 o ho
    cases hd : o.dst with
    | none => rfl
    | some s =>
      rw [hd] at this
      simp only [Nat.blt_eq] at this ⊢
      omega
  | seq a b iha ihb => intro h; simp only [okCode, Bool.and_eq_true] at h ⊢; exact ⟨iha h.1, ihb h.2⟩
  | cond o a b iha ihb => intro h; simp only [okCode, Bool.and_eq_true] at h ⊢; exact ⟨iha h.1, ihb h.2⟩
  | block id b ih => intro h; simp only [okCode] at h ⊢; exact ih h
  | loop b ih => intro h; simp only [okCode] at h ⊢; exact ih h
  | _ => intro _; rfl

/-- What is asked of a function that is not walked into. -/
def PrimOk (P : Program) (cx : Ctx) (f : FuncId) (p : Prim) : Prop :=
  ∀ args h r h', primT p args h = some (r, h') → ∀ base w μ (cargs : Array Value), St cx base w.heap μ h → RelL w.heap μ args cargs.toList → Ran P (AfterG cx base w μ h r h') ((callFunc f cargs).run P w)

/-- The function's code, as the interpreter may take it. -/
def okFun (F : Fun) : Bool := !(F.fn.name == "runtime.NumGoroutine") && match F.fn.body with
  | none => false
  | some c => okCode F.fn.ntmps drawB c

/-- The table of functions is right. -/
structure FnsOk (P : Program) (cx : Ctx) : Prop where
  fn : ∀ f F, cx.fn f = some F → F.prim = none → P.funcs[f]? = some F.fn ∧ okFun F = true
  prim : ∀ f F p, cx.fn f = some F → F.prim = some p → PrimOk P cx f p

theorem run_callFunc_enter {f : FuncId} {fn : Func} {c : Code} (hf : P.funcs[f]? = some fn) (hname : (fn.name == "runtime.NumGoroutine") = false) (hb : fn.body = some c) (args : Array Value) (w : World) :
    (callFunc f args).run P w = .ok (.enter f args) w := by
  have hn : ¬ fn.name = "runtime.NumGoroutine" := by simpa using hname
  simp [callFunc, hf, hn, hb]

theorem body_sound (hm : P.follows .mixedOrders = true) (tys : TysOk P cx) (ck : CallOk P cx cf) {f : FuncId} {F : Fun} (hF : P.funcs[f]? = some F.fn) (hok : okFun F = true) {fuel : Nat} {args : List T} {r : T}
    (hh : bodyT cx cf fuel F.fn F.mask F.keep args h = some (r, h')) (s : St cx base w.heap μ h) {cargs : Array Value} (hL : RelL w.heap μ args cargs.toList) :
    Ran P (AfterG cx base w μ h r h') ((callFunc f cargs).run P w) := by
  unfold okFun at hok
  simp only [Bool.and_eq_true, Bool.not_eq_true'] at hok
  obtain ⟨hname, hok⟩ := hok
  unfold bodyT at hh
  cases hb : F.fn.body with
  | none => rw [hb] at hok; simp at hok
  | some c =>
    rw [hb] at hok hh
    simp only at hok
    obtain ⟨size, low, boxes⟩ := h
    simp only at hh
    replace hh := bnd_eq_some.1 hh; obtain ⟨vars, hvars, hh⟩ := hh
    replace hh := bnd_eq_some.1 hh; obtain ⟨⟨x, e1, h1⟩, hcode, hh⟩ := hh
    simp only [three_mk] at hh
    have hleave : (x = .normal ∨ x = .ret) ∧ (bnd (resultsT cx F.mask e1 h1 F.fn.results.toList) fun vs => leave F.keep size low (oneOrTuple vs) h1) = some (r, h') := by
      cases x with
      | normal => exact ⟨.inl rfl, hh⟩
      | exit i => simp at hh
      | ret => exact ⟨.inr rfl, hh⟩
    obtain ⟨hx, hleave⟩ := hleave
    replace hleave := bnd_eq_some.1 hleave; obtain ⟨vs, hvs, hleave⟩ := hleave
    rw [run_callFunc_enter hF hname hb]
    show Calls P f cargs w _
    refine calls_of_wp hF hb ?_
    have s1 : St cx base w.heap μ ⟨size, size, boxes⟩ := s.relow size
    have hre := init_sound (mask := F.mask) (n := F.fn.ntmps) hL hvars
    have H0 : Here cx base F.mask (cargs.size + (F.fn.ntmps - cargs.size)) w μ ⟨size, size, boxes⟩ ⟨vars, .nil⟩ ⟨size, size, boxes⟩ { tmps := cargs ++ Array.replicate (F.fn.ntmps - cargs.size) Go.undef, defers := [] } w :=
      ⟨μ, s1, hre, ExtW.refl _ _, Dom.refl _ _, Grow.refl s1.wf, by simp, rfl⟩
    refine code_sound (m := cargs.size + (F.fn.ntmps - cargs.size)) (w0 := w) (μ0 := μ) (h0 := ⟨size, size, boxes⟩) (base := base) (mask := F.mask) tys ck (draw_sound hm tys ck) fuel c (okCode_mono (by omega) c hok) _ _ x e1 h1 hcode _ _ _ H0 fun a' w' H1 => ?_
    have key : a'.defers = [] ∧ ∃ v, (results F.fn a'.tmps).run P w' = .ok v w' ∧ AfterG cx base w μ ⟨size, low, boxes⟩ r h' v w' := by
      obtain ⟨μ1, k1, k2, k3, k4, k5, k6, k7⟩ := H1
      obtain ⟨v, hrun, hv⟩ := results_sound (P := P) tys k1 k2 hvs
      obtain ⟨⟨μ2, g1, g2, g3, g4⟩, g5⟩ := leave_sound (low0 := low) s k1 k5 k3 k4 hv hleave
      exact ⟨k7, v, hrun, ⟨μ2, g1, g2, g3, g4⟩, g5⟩
    rcases hx with rfl | rfl
    · exact key
    · exact key

theorem call_sound (hm : P.follows .mixedOrders = true) (tys : TysOk P cx) (fns : FnsOk P cx) : ∀ n, CallOk P cx (callT cx n) := by
  intro n
  induction n with
  | zero => intro f args h r h' hh; simp [callT] at hh
  | succ n ih =>
    intro f args h r h' hh base w μ cargs s hL
    have hh : (bnd (cx.fn f) fun fn => @Fun.rec (fun _ => Option (T × H)) (fun fn mask keep prim =>
      @Option.rec Prim (fun _ => Option (T × H)) (bodyT cx (callT cx n) n fn mask keep args h) (fun p => primT p args h) prim) fn) = some (r, h') := hh
    replace hh := bnd_eq_some.1 hh; obtain ⟨F, hF, hh⟩ := hh
    obtain ⟨fn, mask, keep, prim⟩ := F
    simp only at hh
    cases prim with
    | none =>
      obtain ⟨h1, h2⟩ := fns.fn f _ hF rfl
      exact body_sound (F := ⟨fn, mask, keep, none⟩) hm tys ih h1 h2 hh s hL
    | some p => exact fns.prim f _ p hF rfl args h r h' hh base w μ cargs s hL
end
end Go.TI
