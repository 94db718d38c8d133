/- Functions that are taken by a contract of their own: slices.Clone. -/
import Derived.Test.YtemkchpdcgkeiaaGreatDoorTiCall
import Derived.Laws.Externs
namespace Go.TI
set_option linter.unusedSimpArgs false
set_option linter.unusedVariables false
set_option linter.unusedVariables false
section
variable {P : Program} {cx : Ctx} {base : Nat} {w : World} {μ : Mu} {h h' : H}

/-- The code of slices.Clone, at the slice type t; tb: the type of bools. -/
def cloneBody (t tb : TypeId) : Code :=
  (Code.region 0 #[{ dst := some 2, op := Op.assign (Operand.const (Value.slice none 0 0)), type := t, pos := "slices.go:355", after := #[], guard := none }] false).seq
    (((Code.region 1 #[{ dst := some 3, op := Op.move (Operand.tmp 0), type := t, pos := "slices.go:357", after := #[], guard := none },
          { dst := some 4, op := Op.binOp BinOp.eql t (Operand.tmp 3) (Operand.const (Value.slice none 0 0)) t, type := tb, pos := "slices.go:357", after := #[{ on := 0, ground := Ground.data }], guard := none }] false).seq
        (Code.cond (Operand.tmp 4)
          ((Code.region 2 #[{ dst := some 2, op := Op.assign (Operand.const (Value.slice none 0 0)), type := t, pos := "slices.go:358", after := #[], guard := none }] false).seq Code.ret)
          Code.skip)).seq
      ((Code.region 3 #[{ dst := some 5, op := Op.buildSlice t 0 #[], type := t, pos := "slices.go:362", after := #[], guard := none },
          { dst := some 6, op := Op.move (Operand.tmp 0), type := t, pos := "slices.go:362", after := #[], guard := none },
          { dst := some 7, op := Op.call { callee := Callee.builtin Builtin.append, args := #[Operand.tmp 5, Operand.tmp 6], argTypes := #[t, t] }, type := t, pos := "slices.go:362",
            after := #[{ on := 0, ground := Ground.data }, { on := 1, ground := Ground.data }], guard := none },
          { dst := some 2, op := Op.assign (Operand.tmp 7), type := t, pos := "slices.go:362",
            after := #[{ on := 2, ground := Ground.data }, { on := 2, ground := Ground.chain }, { on := 0, ground := Ground.phase }, { on := 1, ground := Ground.phase }, { on := 2, ground := Ground.phase }], guard := none }] false).seq
        Code.ret))

theorem wpOps_step {ops : Array Oper} {Q : Exit → Act → World → Prop} {i : Nat} {rest : List Nat} {a : Act} {w w' : World} {o : Oper} {v : Value} (ho : ops[i]? = some o) (hg : o.guard = none)
    (hrun : (execOp a.eval o).run P w = .ok (.value v) w') (h : wpOps P ops Q rest (a.put o.dst v) w') : wpOps P ops Q (i :: rest) a w := by
  rw [wpOps_cons]
  unfold wpOp
  simp only [ho]
  have hw : Region.wanted o (yielded ops a.tmps) = true := by simp [Region.wanted, hg]
  simp only [hw, if_true]
  left
  simp only [Oper.wp, hrun, Oper.upon]
  exact h

theorem clone_ok (tys : TysOk P cx) {f : FuncId} {fn : Func} {t tb : TypeId} {sz bytes : Nat} {te : Ty} (hF : P.funcs[f]? = some fn) (hname : (fn.name == "runtime.NumGoroutine") = false) (hb : fn.body = some (cloneBody t tb)) (hn : fn.ntmps = 8)
    (hr : fn.results = #[.tmp 2]) (hel : elemTy cx t = some te) (hsz : te.size = sz) (hbt : te.bytes = bytes) : PrimOk P cx f (.clone sz bytes) := by
  intro args h r h' hh base w μ cargs s hL
  subst hsz hbt
  have hargs : ∃ x, args = [x] := by
    match args, hh with
    | [x], _ => exact ⟨x, rfl⟩
  obtain ⟨x, rfl⟩ := hargs
  obtain ⟨c, cs, hcs, hx, hrest⟩ := hL.uncons
  have hnil : cs = [] := List.eq_nil_of_length_eq_zero (by have := hrest.1; simpa using this.symm)
  subst hnil
  have hca : cargs = #[c] := by apply Array.ext'; rw [hcs]
  subst hca
  have hh : (bnd (h.items x) fun es => @List.rec T (fun _ => Option (T × H)) (some (.tree [] false, h)) (fun _ _ _ => h.appendNew te.size te.bytes [] es) es) = some (r, h') := hh
  obtain ⟨es, hes, hh⟩ := bnd_eq_some.1 hh
  obtain ⟨el, hd, hte⟩ := elemTy_sound tys hel
  obtain ⟨sz', it⟩ := items_sound (P := P) s hx hes
  obtain ⟨ad, cap, news, hform, hle, hLn, hone, hcells⟩ := it.form
  rw [run_callFunc_enter hF hname hb]
  show Calls P f #[c] w _
  refine calls_of_wp hF hb ?_
  have ha0 : ({ tmps := #[c] ++ Array.replicate (fn.ntmps - (#[c] : Array Value).size) Go.undef, defers := [] } : Act) = { tmps := #[c, Go.undef, Go.undef, Go.undef, Go.undef, Go.undef, Go.undef, Go.undef], defers := [] } := by
    rw [hn]; rfl
  rw [ha0]
  unfold cloneBody
  refine wp_seq (wp_region ?_)
  refine wpOps_step (i := 0) (rest := []) rfl rfl (v := .slice none 0 0) (w' := w) (by simp [execOp, Act.eval]) ?_
  refine wp_seq (wp_seq (wp_region ?_))
  refine wpOps_step (i := 0) (rest := [1]) rfl rfl (v := c) (w' := w) (by simp [execOp, Act.eval, Act.put]) ?_
  refine wpOps_step (i := 1) (rest := []) rfl rfl (v := .bool ad.isNone) (w' := w) ?_ ?_
  · have hguard : ∀ q : Value, (eqGuard .eql t (.tmp 3) (.const (.slice none 0 0)) (.slice ad es.length cap) (.slice none 0 0)).run P w = .ok () w := fun _ => by simp [eqGuard]
    have heqn : ∀ n, (Op.equalIn (n + 1) t (.slice ad es.length cap) (.slice none 0 0)).run P w = .ok ad.isNone w := by
      intro n
      cases ad <;> simp [Op.equalIn, run_underlying hd]
    have heq : (binOp .eql t (.slice ad es.length cap) (.slice none 0 0)).run P w = .ok (.bool ad.isNone) w := by
      show (do pure (Value.bool (← Op.equal t (.slice ad es.length cap) (.slice none 0 0))) : Sem Value).run P w = _
      have h1 : (Op.equal t (.slice ad es.length cap) (.slice none 0 0)).run P w = .ok ad.isNone w := heqn 9999
      rw [Sem.run_bind, h1]
      rfl
    rw [hform]
    simp [execOp, Act.eval, Act.put, Sem.run_bind, hguard Go.undef, heq]
  -- the comparison's answer
  have post : ∀ (a : Act) (w' : World) (v : Value), a.defers = [] → a.tmps.getD 2 Go.undef = v → AfterG cx base w μ h r h' v w' →
      bodyPost P fn (fun e w'' => match e with | .returned v => AfterG cx base w μ h r h' v w'' | _ => False) .ret a w' := by
    intro a w' v hdf hv hA
    refine ⟨hdf, v, ?_, hA⟩
    rw [results_eq, hr, Sem.run_bind]
    have : (#[ResultVar.tmp 2].mapM (resultOf a.tmps)).run P w' = .ok #[a.tmps.getD 2 Go.undef] w' := by
      rw [show #[ResultVar.tmp 2] = [ResultVar.tmp 2].toArray from rfl, List.mapM_toArray, List.mapM_cons]
      simp [resultOf]
    rw [this, hv]
    rfl
  cases hnone : ad with
  | none =>
    -- nil
    have hes0 : es = [] := by
      rcases hcells with ⟨_, k⟩ | ⟨y, k, _⟩
      · exact k
      · rw [hnone] at k; simp at k
    rw [hes0] at hh
    have hh : some (T.tree [] false, h) = some (r, h') := hh
    simp only [Option.some.injEq, Prod.mk.injEq] at hh
    obtain ⟨rfl, rfl⟩ := hh
    refine wp_cond_true (by simp [Act.eval, Act.put]) ?_
    refine wp_seq (wp_region ?_)
    refine wpOps_step (i := 0) (rest := []) rfl rfl (v := .slice none 0 0) (w' := w) (by simp [execOp, Act.eval]) ?_
    refine wp_ret ?_
    refine post _ w (.slice none 0 0) rfl (by simp [Act.put]) ⟨⟨μ, .tree0 _ _, s, ExtW.refl _ _, Dom.refl _ _⟩, Grow.refl s.wf⟩
  | some y =>
    refine wp_cond_false (by simp [Act.eval, Act.put]) ?_
    refine wp_skip ?_
    refine wp_seq (wp_region ?_)
    -- the new row
    have hbs : (Instr.buildSlice t 0 #[]).run P w = .ok (.slice (some ⟨w.heap.size, 0, none⟩) 0 0) (w.alloc (.cells #[] el)) := by
      simp [Instr.buildSlice, run_underlying hd, (tys.ty _ _ hte).run_sizeOf, Instr.fill, newRow]
      congr 2
      apply Array.ext <;> simp
    refine wpOps_step (i := 0) (rest := [1, 2, 3]) rfl rfl (v := .slice (some ⟨w.heap.size, 0, none⟩) 0 0) (w' := (w.alloc (.cells #[] el))) (by simp [execOp, hbs]) ?_
    obtain ⟨s1, hext⟩ := s.grow (hp' := w.heap.push (.cells #[] el)) (by simp) (by intro i hi; rw [Array.getElem?_push]; simp; omega)
    have hx1 := hx.ext hext
    refine wpOps_step (i := 1) (rest := [2, 3]) rfl rfl (v := c) (w' := (w.alloc (.cells #[] el))) (by simp [execOp, Act.eval, Act.put]) ?_
    -- what is appended
    have hbapp : bAppend cx h t t (.tree [] false) x = some (.val r h') := by
      unfold bAppend
      rw [hel]
      have hsrc : srcItems cx h t x = some es := by
        unfold srcItems
        unfold elemTy at hel
        obtain ⟨ty, hty, hel'⟩ := bnd_eq_some.1 hel
        rw [hty]
        simp only [bnd_some]
        cases hut : ty.u <;> rw [hut] at hel' <;> simp only [reduceCtorEq] at hel'
        exact hes
      rw [hsrc]
      simp only [bnd_some]
      cases es with
      | nil =>
        have hh : some (T.tree [] false, h) = some (r, h') := hh
        simp only [Option.some.injEq, Prod.mk.injEq] at hh
        obtain ⟨rfl, rfl⟩ := hh
        rfl
      | cons e0 es =>
        have hh : h.appendNew te.size te.bytes [] (e0 :: es) = some (r, h') := hh
        have hfit : fits te.size (e0 :: es) = true := by
          have hh2 := hh
          unfold H.appendNew at hh2
          simp only [appN_eq, bnd_some, normNat_eq, lenN_eq] at hh2
          obtain ⟨_, hh2⟩ := chk_eq_some.1 hh2
          obtain ⟨_, hh2⟩ := chk_eq_some.1 hh2
          obtain ⟨_, hh2⟩ := chk_eq_some.1 hh2
          exact (chk_eq_some.1 hh2).1
        rw [hfit, chk_true]
        show valNew (h.appendNew te.size te.bytes [] (e0 :: es)) = _
        rw [valNew_eq_some]; exact hh
    obtain ⟨v, w2, μ2, d1, d2, d3, d4, d5⟩ := bAppend_sound (P := P) (w := (w.alloc (.cells #[] el))) (ty' := t) tys s1 (p := .tree [] false) (c := .slice (some ⟨w.heap.size, 0, none⟩) 0 0) (.tree0 _ _) hx1 hbapp
    refine wpOps_step (i := 2) (rest := [3]) rfl rfl (v := v) (w' := w2) (by simp [execOp, resolve, invoke, builtin, Act.eval, Act.put, d1]) ?_
    refine wpOps_step (i := 3) (rest := []) rfl rfl (v := v) (w' := w2) (by simp [execOp, Act.eval, Act.put]) ?_
    refine wp_ret ?_
    refine post _ w2 v rfl (by simp [Act.put]) ⟨⟨μ2, d2, d3, ?_, d5⟩, ?_⟩
    · exact ExtW.trans (w1 := w.alloc (.cells #[] el)) ⟨hext, rfl, rfl, rfl⟩ d4
    · cases es with
      | nil =>
        have hh : some (T.tree [] false, h) = some (r, h') := hh
        simp only [Option.some.injEq, Prod.mk.injEq] at hh
        obtain ⟨rfl, rfl⟩ := hh
        exact Grow.refl s.wf
      | cons e0 es => exact appendNew_grow s.wf hh

/-! ### bytealg.IndexByteString -/

theorem findByte_eq (c : Nat) : ∀ (l : List Nat) (i : Nat), findByte c l i = some (match (List.range l.length).find? (fun j => l[j]! == c) with | some j => ((i + j : Nat) : Int) | none => -1) := by
  intro l
  induction l with
  | nil => intro i; rfl
  | cons x l ih =>
    intro i
    have hh : findByte c (x :: l) i = @Bool.rec (fun _ => Option Int) (bnd (normNat (Nat.succ i)) fun i' => findByte c l i') (some (.ofNat i)) (Nat.beq x c) := rfl
    rw [hh]
    have hr : List.range (l.length + 1) = 0 :: (List.range l.length).map (· + 1) := List.range_succ_eq_map
    rw [List.length_cons, hr, List.find?_cons]
    cases hb : Nat.beq x c with
    | true =>
      have := Nat.eq_of_beq_eq_true hb
      subst this
      simp
    | false =>
      have hne := Nat.ne_of_beq_eq_false hb
      have h0 : ((x :: l)[0]! == c) = false := by simpa using hne
      rw [h0]
      simp only [normNat_eq, bnd_some]
      rw [ih (i + 1), List.find?_map]
      have : ((fun j => (x :: l)[j]! == c) ∘ fun j => j + 1) = fun j => l[j]! == c := by
        funext j; simp
      rw [this]
      cases (List.range l.length).find? (fun j => l[j]! == c) with
      | none => rfl
      | some j => simp only [Option.map_some, Option.some.injEq]; congr 1; omega

theorem find?_congr' {α : Type} {p q : α → Bool} : ∀ {l : List α}, (∀ x ∈ l, p x = q x) → l.find? p = l.find? q
  | [], _ => rfl
  | x :: l, h => by
    rw [List.find?_cons, List.find?_cons, h x (by simp), find?_congr' fun y hy => h y (by simp [hy])]

theorem firstIdx_eq {l : List Nat} (hl : ∀ x ∈ l, x < 256) {c : Nat} (hc : c < 256) : firstIdx (bytesOf l) (UInt8.ofNat c) = match (List.range l.length).find? (fun j => l[j]! == c) with | some j => ((j : Nat) : Int) | none => -1 := by
  unfold firstIdx
  rw [size_bytesOf]
  have : (List.range l.length).find? (fun i => (bytesOf l)[i]! == UInt8.ofNat c) = (List.range l.length).find? (fun j => l[j]! == c) := by
    apply find?_congr'
    intro j hj
    have hj : j < l.length := List.mem_range.1 hj
    have h1 : (bytesOf l)[j]! = UInt8.ofNat l[j] := by
      have hs : j < (bytesOf l).size := by rw [size_bytesOf]; exact hj
      rw [getElem!_pos (bytesOf l) j hs]
      show (bytesOf l).data[j] = _
      simp [bytesOf]
    rw [h1, getElem!_pos l j hj]
    have hlt := hl l[j] (List.getElem_mem hj)
    by_cases h : l[j] = c
    · simp [h]
    · have : UInt8.ofNat l[j] ≠ UInt8.ofNat c := fun k => h (by
        have := congrArg UInt8.toNat k
        rwa [toNat_ofNat_lt hlt, toNat_ofNat_lt hc] at this)
      rw [beq_eq_false_iff_ne.2 this, beq_eq_false_iff_ne.2 h]
  rw [this]
  cases (List.range l.length).find? (fun j => l[j]! == c) <;> rfl

theorem indexByte_ok {f : FuncId} {fn : Func} (hF : P.funcs[f]? = some fn) (hname : (fn.name == "runtime.NumGoroutine") = false) (hb : fn.body.isNone = true) (hn : Extern.findNext fn = none)
    (he : Extern.find fn = some Extern.BytealgIndexByte.indexByte) : PrimOk P cx f .indexByteString := by
  intro args h r h' hh base w μ cargs s hL
  have hform : ∃ l c, args = [.str l, .int .u8 (.ofNat c)] ∧ c < 256 ∧ (bnd (findByte c l 0) fun n => some (T.int .i64 n, h)) = some (r, h') := by
    unfold primT at hh
    simp only at hh
    split at hh
    · rename_i l c
      obtain ⟨h1, hh⟩ := chk_eq_some.1 hh
      rw [Nat.blt_eq] at h1
      exact ⟨l, c, rfl, h1, hh⟩
    · simp at hh
  obtain ⟨l, c, rfl, hc, hh⟩ := hform
  obtain ⟨c1, cs, hcs, hv, hrest⟩ := hL.uncons
  obtain ⟨c2, cs', rfl, hv2, hrest2⟩ := hrest.uncons
  have hnil : cs' = [] := List.eq_nil_of_length_eq_zero (by have := hrest2.1; simpa using this.symm)
  subst hnil
  have hca : cargs = #[c1, c2] := by apply Array.ext'; rw [hcs]
  subst hca
  obtain ⟨e1, hl⟩ := hv.inv_str
  have e2 := hv2.inv_int
  subst e1 e2
  obtain ⟨n, hn', hh⟩ := bnd_eq_some.1 hh
  simp only [Option.some.injEq, Prod.mk.injEq] at hh
  obtain ⟨rfl, rfl⟩ := hh
  rw [run_callFunc_extern hF hname hb hn he]
  have hrun := run_indexByte_string (P := P) (bytesOf l) (Int.ofNat c) w
  rw [hrun]
  have hcc : (Int.ofNat c).toNat.toUInt8 = UInt8.ofNat c := rfl
  rw [hcc, firstIdx_eq hl hc]
  rw [findByte_eq] at hn'
  simp only [Option.some.injEq, Nat.zero_add] at hn'
  rw [hn']
  exact ⟨⟨μ, .int _ _, s, ExtW.refl _ _, Dom.refl _ _⟩, Grow.refl s.wf⟩
end
end Go.TI
