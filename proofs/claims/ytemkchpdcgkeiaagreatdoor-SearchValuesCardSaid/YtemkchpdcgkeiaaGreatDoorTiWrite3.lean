/- Operations that make memory, part 2. -/
import Derived.Test.YtemkchpdcgkeiaaGreatDoorTiWrite2
import Derived.Laws.Tables
import Derived.Great.BuildSlice
set_option linter.unusedVariables false
namespace Go.TI
set_option linter.unusedSimpArgs false
set_option linter.unusedVariables false
section
variable {P : Program} {cx : Ctx} {base : Nat} {w : World} {μ : Mu} {h h' : H} {mask : Nat} {e : Env} {a : Act} {o : Oper} {hp hp' : Array Obj}

theorem mapM_places : ∀ (fs : List Field), (∀ f ∈ fs, ∃ i, P.info? f.type = some i ∧ i.size ≠ 0) → ∃ places, fs.mapM (fun f => (P.info? f.type).map fun i => (f.offset, i.size)) = some places ∧
    ∀ (k : Nat) f i, fs[k]? = some f → P.info? f.type = some i → places[k]? = some (f.offset, i.size)
  | [], _ => ⟨[], rfl, fun k f i hk => by simp at hk⟩
  | f :: fs, hall => by
    obtain ⟨i, hi, _⟩ := hall f (by simp)
    obtain ⟨pl, h1, h2⟩ := mapM_places fs fun g hg => hall g (by simp [hg])
    refine ⟨(f.offset, i.size) :: pl, by simp [List.mapM_cons, hi, h1], fun k g j hk hj => ?_⟩
    cases k with
    | zero => simp at hk; subst hk; rw [hi] at hj; simp at hj; subst hj; simp
    | succ k => simp at hk; simpa using h2 k g j hk hj

theorem parts_toList (parts : Array (Nat × Operand)) : (parts.map fun (i, x) => (i, a.eval x)).toList = parts.toList.map fun p => (p.1, a.eval p.2) := by
  simp

theorem hBuild_sound (tys : TysOk P cx) {t : TypeId} {parts : Array (Nat × Operand)} (s : St cx base w.heap μ h) (r : RelE w.heap μ mask e a.tmps) (ho : o.op = .build t parts) {v : T}
    (hh : hBuild t parts cx mask e h = some (.val v h')) : Done cx base w μ h.size ((execOp a.eval o).run P w) v h' := by
  replace hh := bnd_eq_some.1 hh; obtain ⟨ty, hty, hh⟩ := hh
  replace hh := bnd_eq_some.1 hh; obtain ⟨ps, hps, hh⟩ := hh
  have hP := partsOf_sound s r hps
  obtain ⟨it, d, z, h1, h2, h3, h4, h5, _⟩ := (tys.ty _ _ hty).unfold
  obtain ⟨hzL, hzs⟩ := RelL.ofCells (hp := w.heap) (μ := μ) h4
  have fin : ∀ (out : Array Value) (cs : List T), P.built t (parts.toList.map fun p => (p.1, a.eval p.2)) = some out → RelL w.heap μ cs out.toList → (∀ v ∈ cs, v.scalar = true) → v = .agg cs → h' = h →
      Done cx base w μ h.size ((execOp a.eval o).run P w) v h' := by
    rintro out cs hb hL hs rfl rfl
    refine Done.pure s ?_ (RelV.aggOf hL hs)
    rw [← parts_toList] at hb
    simp only [execOp, ho, Sem.run_bind, run_build w t _ out hb, Result.andThen_ok, Sem.run_pure]
  cases hut : ty.u <;> rw [hut] at hh h5 <;> simp at hh
  · rename_i n el
    have := uOf_array h5; subst this
    replace hh := bnd_eq_some.1 hh; obtain ⟨te, hte, hh⟩ := hh
    replace hh := bnd_eq_some.1 hh; obtain ⟨cs, hcs, hh⟩ := hh
    obtain ⟨hv, rfl⟩ := val_eq_some.1 hh
    simp at hv; subst hv
    obtain ⟨ie, _, _, g1, _, _, _, _, _, _, g8, _⟩ := (tys.ty _ _ hte).unfold
    obtain ⟨out, o1, o2, o3, _⟩ := fillCells_sound (place' := fun i => some (i * ie.size, ie.size)) (by intro i q hq; rw [g8]; exact hq) ps _ _ _ z.cells hP hzL hzs hcs
    exact fin out cs (by simp only [Program.built, h1, h2, h3, g1]; exact o1) o2 o3 rfl rfl
  · rename_i fs
    obtain ⟨fields, rfl, hfs, hall⟩ := uOf_struct h5
    replace hh := bnd_eq_some.1 hh; obtain ⟨cs, hcs, hh⟩ := hh
    obtain ⟨hv, rfl⟩ := val_eq_some.1 hh
    simp at hv; subst hv
    obtain ⟨places, hpl, hpl2⟩ := mapM_places fields.toList hall
    obtain ⟨out, o1, o2, o3, _⟩ := fillCells_sound (place' := fun i => places.toArray[i]?) (by
      intro i q hq
      obtain ⟨f, hf, hq⟩ := bnd_eq_some.1 hq
      obtain ⟨tf, htf, hq⟩ := bnd_eq_some.1 hq
      simp at hq
      rw [hfs] at hf
      rw [List.getElem?_map] at hf
      cases hfi : fields.toList[i]? with
      | none => rw [hfi] at hf; simp at hf
      | some fl =>
        rw [hfi] at hf; simp at hf
        obtain ⟨ie, _, _, g1, _, _, _, _, _, _, g8, _⟩ := (tys.ty _ _ htf).unfold
        rw [← hf] at g1
        have := hpl2 i fl ie hfi g1
        rw [← hf] at hq
        simp only [] at hq
        rw [← hq, ← g8]
        simpa using this) ps _ _ _ z.cells hP hzL hzs hcs
    exact fin out cs (by simp only [Program.built, h1, h2, h3, hpl]; exact o1) o2 o3 rfl rfl

/-! ### slices -/

theorem flat_set {sz : Nat} {es : List T} (hu : ∀ v ∈ es, v.cells.length = sz) {i : Nat} (hi : i < es.length) (v : T) : flat (es.set i v) = (flat es).take (i * sz) ++ v.cells ++ (flat es).drop (i * sz + sz) := by
  rw [flat_take hu, ← Nat.succ_mul, flat_drop hu, List.set_eq_take_append_cons_drop, if_pos hi, flat_append, flat_cons, List.append_assoc]

theorem flat_replicate {z : T} (n : Nat) : flat (List.replicate n z) = (List.replicate n z.cells).flatten := by
  induction n with
  | zero => rfl
  | succ n ih => rw [List.replicate_succ, flat_cons, ih, List.replicate_succ, List.flatten_cons]

theorem range_mod {zs : Array Value} (n : Nat) (hpos : 0 < zs.size) : ((Array.range (n * zs.size)).map (zs[· % zs.size]!)).toList = (List.replicate n zs.toList).flatten := by
  induction n with
  | zero => simp
  | succ n ih =>
    have hsplit : (Array.range ((n + 1) * zs.size)).toList = (Array.range (n * zs.size)).toList ++ (List.range zs.size).map (n * zs.size + ·) := by
      simp only [Array.toList_range]
      rw [Nat.succ_mul, List.range_add]
    rw [Array.toList_map, hsplit, List.map_append, ← Array.toList_map, ih, List.replicate_succ', List.flatten_append]
    congr 1
    simp only [List.flatten_cons, List.flatten_nil, List.append_nil, List.map_map]
    apply List.ext_getElem
    · simp
    · intro k h1 h2
      simp at h1
      simp [Nat.mul_add_mod, Nat.mod_eq_of_lt h1, h1]

theorem RelL.replicate {zs : List T} {cs : List Value} (hL : RelL hp μ zs cs) (n : Nat) : RelL hp μ (List.replicate n zs).flatten (List.replicate n cs).flatten := by
  induction n with
  | zero => exact RelL.nil
  | succ n ih => rw [List.replicate_succ, List.replicate_succ, List.flatten_cons, List.flatten_cons]; exact hL.append ih

theorem fillElems_cons (sz : Nat) (i : Nat) (v : T) (ps : List (Nat × T)) (es : List T) : fillElems sz ((i, v) :: ps) es = chk (Nat.beq (lenN v.cells) sz) (bnd (setNth es i v) fun es' => fillElems sz ps es') := rfl

theorem fillElems_sound {sz : Nat} (hsz : 0 < sz) : ∀ (ps : List (Nat × T)) (qs : List (Nat × Value)) (es r : List T) (cells : Array Value),
    RelP hp μ ps qs → (∀ v ∈ es, v.cells.length = sz) → RelL hp μ (flat es) cells.toList → (∀ v ∈ flat es, v.scalar = true) → fillElems sz ps es = some r →
    ∃ out, Instr.fill (fun i => some (i * sz, sz)) cells qs = some out ∧ RelL hp μ (flat r) out.toList ∧ (∀ v ∈ flat r, v.scalar = true) ∧ (∀ v ∈ r, v.cells.length = sz) ∧ r.length = es.length := by
  intro ps
  induction ps with
  | nil =>
    intro qs es r cells hp hu hL hs hh
    have : qs = [] := List.eq_nil_of_length_eq_zero hp.1.symm
    subst this
    have : r = es := by simpa [fillElems] using hh.symm
    subst this
    exact ⟨cells, rfl, hL, hs, hu, rfl⟩
  | cons p ps ih =>
    intro qs es r cells hP hu hL hs hh
    obtain ⟨c, qs', rfl, hr, hg, hP'⟩ := hP.uncons
    obtain ⟨i, v⟩ := p
    rw [fillElems_cons] at hh
    obtain ⟨hl, hh⟩ := chk_eq_some.1 hh
    obtain ⟨es', hst, hh⟩ := bnd_eq_some.1 hh
    have hlen := Nat.eq_of_beq_eq_true hl
    rw [lenN_eq] at hlen
    rw [setNth_eq] at hst
    split at hst
    · rename_i hi
      simp at hst; subst hst
      obtain ⟨cL, csc, _⟩ := hr.cells hg
      have h1 := hL.1
      have h2 := cL.1
      simp only [Array.length_toList] at h1 h2
      have hfl := flat_length hu
      have hle : i * sz + c.cells.size ≤ cells.size := by
        rw [← h1, hfl, ← h2, hlen, ← Nat.succ_mul]
        exact Nat.mul_le_mul_right _ hi
      have hstep := fill_step (cells := cells) (c := c) hle
      have hfs := flat_set hu hi v
      have hu' : ∀ x ∈ es.set i v, x.cells.length = sz := by
        intro x hx
        rcases List.mem_or_eq_of_mem_set hx with k | rfl
        · exact hu x k
        · exact hlen
      have hL' : RelL hp μ (flat (es.set i v)) (c.cells.zipIdx.foldl (fun cs (x : Value × Nat) => cs.setIfInBounds (i * sz + x.2) x.1) cells).toList := by
        rw [hstep, hfs]
        have : c.cells.size = sz := by omega
        rw [this]
        exact ((hL.take _).append cL).append (hL.drop _)
      have hs' : ∀ x ∈ flat (es.set i v), x.scalar = true := by
        intro x hx
        rw [hfs] at hx
        rcases List.mem_append.1 hx with hx | hx
        · rcases List.mem_append.1 hx with hx | hx
          · exact hs x (List.mem_of_mem_take hx)
          · exact csc x hx
        · exact hs x (List.mem_of_mem_drop hx)
      obtain ⟨out, o1, o2, o3, o4, o5⟩ := ih qs' _ r _ hP' hu' hL' hs' hh
      refine ⟨out, ?_, o2, o3, o4, by simpa using o5⟩
      simp only [Instr.fill]
      have hc : ¬ (c.cells.size ≠ sz || decide (i * sz + c.cells.size > cells.size)) = true := by simp; omega
      rw [if_neg hc]
      exact o1
    · simp at hst

theorem hBuildSlice_sound (tys : TysOk P cx) {t : TypeId} {len : Nat} {parts : Array (Nat × Operand)} (s : St cx base w.heap μ h) (r : RelE w.heap μ mask e a.tmps) (ho : o.op = .buildSlice t len parts) {v : T}
    (hh : hBuildSlice t len parts cx mask e h = some (.val v h')) : Done cx base w μ h.size ((execOp a.eval o).run P w) v h' := by
  replace hh := bnd_eq_some.1 hh; obtain ⟨ty, hty, hh⟩ := hh
  obtain ⟨d, hd, hu⟩ := und_of (tys.ty _ _ hty)
  cases hut : ty.u <;> rw [hut] at hh hu <;> simp at hh
  rename_i el
  have := uOf_slice hu; subst this
  replace hh := bnd_eq_some.1 hh; obtain ⟨te, hte, hh⟩ := hh
  replace hh := bnd_eq_some.1 hh; obtain ⟨ps, hps, hh⟩ := hh
  replace hh := chk_eq_some.1 hh; obtain ⟨hpos, hh⟩ := hh
  replace hh := chk_eq_some.1 hh; obtain ⟨hsmall, hh⟩ := hh
  replace hh := bnd_eq_some.1 hh; obtain ⟨es, hes, hh⟩ := hh
  rw [valNew_eq_some, H.new_cons] at hh
  simp only [Option.some.injEq, Prod.mk.injEq] at hh
  obtain ⟨rfl, rfl⟩ := hh
  have hpos := Nat.le_of_ble_eq_true hpos
  have hsmall := Nat.le_of_ble_eq_true hsmall
  have hsmall : len * te.size ≤ 65536 := hsmall
  rw [← replicateN_eq] at *
  have hP := partsOf_sound s r hps
  obtain ⟨z, hz, hzV, hzL, hzs, hzl, hzc, hzg, hzz⟩ := (tys.ty _ _ hte).zero w
  have hcells : ∃ cells : Array Value, (if len * te.size = 0 then (pure #[] : Sem (Array Value)) else do pure (← zeroValue el).cells).run P w = .ok (if len * te.size = 0 then #[] else z.cells) w ∧
      ((Array.range (len * te.size)).map ((if len * te.size = 0 then #[] else z.cells)[· % (if len * te.size = 0 then #[] else z.cells).size]!)) = cells ∧ RelL w.heap μ (flat (List.replicate len te.zeroT)) cells.toList := by
    by_cases h0 : len * te.size = 0
    · have hl0 : len = 0 := by
        rcases Nat.mul_eq_zero.1 h0 with k | k
        · exact k
        · omega
      subst hl0
      refine ⟨_, by simp, rfl, ?_⟩
      simp [flat]
      exact RelL.nil
    · refine ⟨_, by simp [h0, hz], rfl, ?_⟩
      rw [if_neg h0, ← hzz, range_mod len (by omega), flat_replicate, hzc]
      exact (hzL _ _).replicate len
  obtain ⟨cells, hz1, hz2, hz3⟩ := hcells
  have hu0 : ∀ v ∈ List.replicate len te.zeroT, v.cells.length = te.size := by
    intro v hv; rw [List.eq_of_mem_replicate hv, hzc]; exact hzl
  have hs0 : ∀ v ∈ flat (List.replicate len te.zeroT), v.scalar = true := by
    intro v hv
    obtain ⟨y, hy, hv⟩ := List.mem_flatMap.1 hv
    rw [List.eq_of_mem_replicate hy, hzc] at hv
    exact hzs v hv
  rw [replicateN_eq] at hes
  obtain ⟨out, o1, o2, o3, o4, o5⟩ := fillElems_sound (by omega) ps _ _ es cells hP hu0 hz3 hs0 hes
  have hel : es.length = len := by simpa using o5
  have hout : out.size = len * te.size := by
    have := o2.1
    rw [flat_length o4, hel] at this
    simpa using this.symm
  obtain ⟨μ', k1, k2, k3, k4⟩ := new_box s el (arr := out) (cap := len) (sz := te.size) (ex := true) (es := es) hout (by omega) (by omega) o4 o3 (by
    rw [List.take_of_length_le]
    · exact o2
    · have := o2.1; simp at this ⊢; omega)
  refine ⟨.slice (some ⟨w.heap.size, 0, none⟩) len len, _, μ', .inl ?_, .arr _ 0 0 len false _ _ len k4 (Nat.le_refl _) (Nat.le_refl _) (fun _ => ⟨by simp, by simp, by simp⟩), k1, k2, k3⟩
  have hnl : ¬ len * te.size > 2 ^ 24 := by omega
  have hfill : Instr.fill (fun i => some (i * te.size, te.size)) cells (parts.map fun (i, x) => (i, a.eval x)).toList = some out := by rw [parts_toList]; exact o1
  by_cases h0 : len * te.size = 0
  · have hc0 : cells = #[] := by rw [← hz2, h0]; simp
    rw [hc0] at o1
    have hr0 : Array.map (fun _ => (default : Value)) (Array.range 0) = #[] := by simp
    simp [execOp, ho, Instr.buildSlice, run_underlying hd, (tys.ty _ _ hte).run_sizeOf, h0, hr0, o1, newRow]
  · simp only [h0, if_false] at hz2
    simp [execOp, ho, Instr.buildSlice, run_underlying hd, (tys.ty _ _ hte).run_sizeOf, h0, hnl, hz, hz2, o1, newRow]

set_option maxRecDepth 20000 in
theorem hMakeSlice_sound (tys : TysOk P cx) {t : TypeId} {x y : Operand} (s : St cx base w.heap μ h) (r : RelE w.heap μ mask e a.tmps) (ho : o.op = .makeSlice t x y) {v : T}
    (hh : hMakeSlice t x y cx mask e h = some (.val v h')) : Done cx base w μ h.size ((execOp a.eval o).run P w) v h' := by
  replace hh := bnd_eq_some.1 hh; obtain ⟨ty, hty, hh⟩ := hh
  obtain ⟨d, hd, hu⟩ := und_of (tys.ty _ _ hty)
  cases hut : ty.u <;> rw [hut] at hh hu <;> simp at hh
  rename_i el
  have := uOf_slice hu; subst this
  replace hh := bnd_eq_some.1 hh; obtain ⟨te, hte, hh⟩ := hh
  replace hh := bnd_eq_some.1 hh; obtain ⟨p, hp, hh⟩ := hh
  replace hh := bnd_eq_some.1 hh; obtain ⟨q, hq, hh⟩ := hh
  replace hh := bnd_eq_some.1 hh; obtain ⟨l, hl, hh⟩ := hh
  replace hh := bnd_eq_some.1 hh; obtain ⟨c, hc, hh⟩ := hh
  replace hh := chk_eq_some.1 hh; obtain ⟨hpos, hh⟩ := hh
  replace hh := chk_eq_some.1 hh; obtain ⟨hbp, hh⟩ := hh
  replace hh := chk_eq_some.1 hh; obtain ⟨hle, hh⟩ := hh
  replace hh := chk_eq_some.1 hh; obtain ⟨hsm, hh⟩ := hh
  rw [valNew_eq_some, H.new_cons] at hh
  simp only [Option.some.injEq, Prod.mk.injEq] at hh
  obtain ⟨rfl, rfl⟩ := hh
  have hpos := Nat.le_of_ble_eq_true hpos
  have hbp := Nat.le_of_ble_eq_true hbp
  have hle := Nat.le_of_ble_eq_true hle
  have hsm : c * te.bytes ≤ 70368744177664 := Nat.le_of_ble_eq_true hsm
  obtain ⟨k1, rfl⟩ := toIdx_eq_some hl
  obtain ⟨k2, rfl⟩ := toIdx_eq_some hc
  have hx := (opnd_sound s r hp).inv_int
  have hy := (opnd_sound s r hq).inv_int
  obtain ⟨z, hz, hzV, hzL, hzs, hzl, hzc, hzg, hzz⟩ := (tys.ty _ _ hte).zero w
  obtain ⟨ti, hti, htb, hts⟩ := (tys.ty _ _ hte).run_typeInfo w
  have hcs : c ≤ 70368744177664 := Nat.le_trans (Nat.le_mul_of_pos_right c (by omega)) hsm
  have hcells : ∃ cells : Array Value, (if c * te.size = 0 then (pure #[] : Sem (Array Value)) else do pure (← zeroValue el).cells).run P w = .ok (if c * te.size = 0 then #[] else z.cells) w ∧
      ((Array.range (c * te.size)).map ((if c * te.size = 0 then #[] else z.cells)[· % (if c * te.size = 0 then #[] else z.cells).size]!)) = cells ∧ RelL w.heap μ (flat (List.replicate c te.zeroT)) cells.toList := by
    by_cases h0 : c * te.size = 0
    · have hl0 : c = 0 := by
        rcases Nat.mul_eq_zero.1 h0 with k | k
        · exact k
        · omega
      subst hl0
      refine ⟨_, by simp, rfl, ?_⟩
      simp [flat]
      exact RelL.nil
    · refine ⟨_, by simp [h0, hz], rfl, ?_⟩
      rw [if_neg h0, ← hzz, range_mod c (by omega), flat_replicate, hzc]
      exact (hzL _ _).replicate c
  obtain ⟨cells, hz1, hz2, hz3⟩ := hcells
  have hu0 : ∀ n, ∀ v ∈ List.replicate n te.zeroT, v.cells.length = te.size := by
    intro n v hv; rw [List.eq_of_mem_replicate hv, hzc]; exact hzl
  have hs0 : ∀ v ∈ flat (List.replicate l te.zeroT), v.scalar = true := by
    intro v hv
    obtain ⟨y, hy, hv⟩ := List.mem_flatMap.1 hv
    rw [List.eq_of_mem_replicate hy, hzc] at hv
    exact hzs v hv
  have hout : cells.size = c * te.size := by
    have := hz3.1
    rw [flat_length (hu0 c)] at this
    simpa using this.symm
  obtain ⟨μ', q1, q2, q3, q4⟩ := new_box s el (arr := cells) (cap := c) (sz := te.size) (ex := Nat.beq l c) (es := List.replicate l te.zeroT) hout (by simpa using hle) (by intro hb; simp; exact (Nat.eq_of_beq_eq_true hb).symm) (hu0 l) hs0 (by
    rw [flat_length (hu0 l), List.length_replicate]
    have := hz3.take (l * te.size)
    rw [flat_take (hu0 c)] at this
    rw [List.take_replicate, Nat.min_eq_left hle] at this
    exact this)
  refine ⟨.slice (some ⟨w.heap.size, 0, none⟩) l c, _, μ', .inl ?_, .arr _ 0 0 l false _ _ c q4 (Nat.le_refl _) hle (fun _ => ⟨by simp, by simp, by simp⟩), q1, q2, q3⟩
  have e1 : IntKind.i64.wrap (Int.ofNat c) = (c : Int) := IntWalk.i64_in (c : Int) ⟨by omega, by omega⟩
  have e2 : IntKind.i64.wrap (Int.ofNat l) = (l : Int) := IntWalk.i64_in (l : Int) ⟨by omega, by omega⟩
  have t1 : ¬ ((te.bytes : Int) * (c : Int) > 2 ^ 48) := by
    have : ((c * te.bytes : Nat) : Int) ≤ 70368744177664 := Int.ofNat_le.2 hsm
    rw [Int.mul_comm]; push_cast at this; omega
  have t2 : (decide ((c : Int) < 0) || decide ((te.bytes : Int) * (c : Int) > 2 ^ 48) || decide ((l : Int) < 0) || decide ((l : Int) > (c : Int))) = false := by
    simp only [Bool.or_eq_false_iff, decide_eq_false_iff_not]
    exact ⟨⟨⟨by omega, t1⟩, by omega⟩, by omega⟩
  by_cases h0 : c * te.size = 0
  · simp only [h0, if_true] at hz2
    simp only [execOp, ho, Instr.makeSlice, Sem.run_bind, run_underlying hd, Result.andThen_ok, hx, hy, asInt, asIntOf, Sem.run_pure, hti, htb, e1, e2, t2, Bool.false_eq_true, if_false, run_askRoom, (tys.ty _ _ hte).run_sizeOf, Int.toNat_natCast, h0, if_true, hz2, newRow, run_newObj]
  · simp only [h0, if_false] at hz2
    simp only [execOp, ho, Instr.makeSlice, Sem.run_bind, run_underlying hd, Result.andThen_ok, hx, hy, asInt, asIntOf, Sem.run_pure, hti, htb, e1, e2, t2, Bool.false_eq_true, if_false, run_askRoom, (tys.ty _ _ hte).run_sizeOf, Int.toNat_natCast, h0, hz, hz2, newRow, run_newObj]

theorem hRange_sound {t : TypeId} {x : Operand} (s : St cx base w.heap μ h) (r : RelE w.heap μ mask e a.tmps) (ho : o.op = .range t x) (hstr : P.underlying t = some .string) {v : T}
    (hh : hRange x cx mask e h = some (.val v h')) : Done cx base w μ h.size ((execOp a.eval o).run P w) v h' := by
  replace hh := bnd_eq_some.1 hh; obtain ⟨p, hp, hh⟩ := hh
  cases p <;> simp at hh
  rename_i str
  rw [valNew_eq_some, H.new_cons] at hh
  simp only [Option.some.injEq, Prod.mk.injEq] at hh
  obtain ⟨rfl, rfl⟩ := hh
  obtain ⟨e1, b1⟩ := (opnd_sound s r hp).inv_str
  obtain ⟨k1, k2, k3⟩ := s.new (.stringIter (bytesOf str) 0) ⟨0, w.heap.size, 0, 1⟩ ⟨1, 0, 0, true, true, [.str str, .int .i64 0]⟩ rfl (by
    intro hext
    refine ⟨rfl, rfl, fun k => by simp at k, fun _ => ⟨rfl, .inl ⟨str, 0, rfl, b1, by simp⟩⟩⟩)
  refine ⟨.pointer (some ⟨w.heap.size, 0, none⟩), { w with heap := w.heap.push (.stringIter (bytesOf str) 0) }, _, .inl ?_, .iter _ _ _ (setMu_same _ _ _) (fun _ => rfl), k1, ⟨k2, rfl, rfl, rfl⟩, k3⟩
  simp [execOp, ho, Instr.range, run_underlying hstr, e1]
end
end Go.TI
