/- The interpreter of trees, part 2 of 8: TiWrite2 TiWrite3 TiWrite4 TiAppend TiAppend2 TiBuiltin TiOps TiMap. -/
import Derived.Test.YtddpfdjgppabhaaGreatDoorTiJ1
import Derived.Great.FillDense
import Derived.Laws.Tables
import Derived.Great.BuildSlice
import Derived.Deep.AppendSrc
import Derived.Laws.AppendOwn
import Derived.Lib.ConvBytes
import Derived.MapKept
import Derived.Laws.IdiomStrings
import Derived.WideKeyRuns
import Derived.Maps.RangeRun
set_option linter.unusedSimpArgs false
set_option linter.unusedVariables false
/- Operations that make memory: variables, built values, made slices. -/
set_option linter.unusedVariables false
namespace Go.TI
section
variable {P : Program} {cx : Ctx} {base : Nat} {w : World} {μ : Mu} {h h' : H} {mask : Nat} {e : Env} {a : Act} {o : Oper} {hp hp' : Array Obj}

theorem valNew_eq_some {x : Option (T × H)} {v : T} {h' : H} : valNew x = some (.val v h') ↔ x = some (v, h') := by
  unfold valNew
  cases x with
  | none => simp
  | some r => obtain ⟨v', h''⟩ := r; simp

/-- A new row is a new box's. -/
theorem new_box (s : St cx base w.heap μ h) (t : TypeId) {arr : Array Value} {cap sz : Nat} {ex : Bool} {es : List T} (harr : arr.size = cap * sz) (hroom : es.length ≤ cap) (hex : ex = true → cap = es.length)
    (hu : ∀ v ∈ es, v.cells.length = sz) (hsc : ∀ v ∈ flat es, v.scalar = true) (hL : RelL w.heap μ (flat es) (arr.toList.take (flat es).length)) :
    ∃ μ', St cx base (w.heap.push (.cells arr t)) μ' (h.cons (newBox sz ex es)) ∧ ExtW w μ { w with heap := w.heap.push (.cells arr t) } μ' ∧ Dom μ μ' h.size (h.cons (newBox sz ex es)).size ∧
      μ' h.size = some ⟨0, w.heap.size, cap, sz⟩ := by
  obtain ⟨h1, h2, h3⟩ := s.new (.cells arr t) ⟨0, w.heap.size, cap, sz⟩ (newBox sz ex es) rfl (by
    intro hext
    refine ⟨rfl, rfl, fun _ => ⟨⟨arr, t, by simp, harr, hL.ext hext⟩, hroom, hex, hu, hsc⟩, fun k => by simp [newBox] at k⟩)
  exact ⟨_, h1, ⟨h2, rfl, rfl, rfl⟩, h3, setMu_same _ _ _⟩

theorem scalar_cells {v : T} (h : v.scalar = true) : v.cells = [v] := by
  cases v <;> first | rfl | (simp [T.scalar] at h)

theorem flat_scalars {l : List T} (h : ∀ v ∈ l, v.scalar = true) : flat l = l := by
  induction l with
  | nil => rfl
  | cons v l ih =>
    have h1 := scalar_cells (h v (by simp))
    have h2 := ih fun x hx => h x (by simp [hx])
    unfold flat at h2 ⊢
    rw [List.flatMap_cons, h1, h2]
    rfl

theorem hAlloc_sound (tys : TysOk P cx) {t : TypeId} (s : St cx base w.heap μ h) (ho : o.op = .alloc t) {v : T}
    (hh : hAlloc t cx mask e h = some (.val v h')) : Done cx base w μ h.size ((execOp a.eval o).run P w) v h' := by
  replace hh := bnd_eq_some.1 hh; obtain ⟨ty, hty, hh⟩ := hh
  obtain ⟨z, hz, _, hzL, hzs, hzl, hzc, hzg, hzz⟩ := (tys.ty _ _ hty).zero w
  cases hbs : isBytes cx ty with
  | false =>
    rw [hbs] at hh
    have hh : valNew (h.new (fun b => T.ptr b 0 0 0) (newBox ty.size true [ty.zeroT])) = some (.val v h') := hh
    rw [valNew_eq_some, H.new_cons] at hh
    simp only [Option.some.injEq, Prod.mk.injEq] at hh
    obtain ⟨rfl, rfl⟩ := hh
    obtain ⟨μ', k1, k2, k3, k4⟩ := new_box s t (arr := z.cells) (cap := 1) (sz := ty.size) (ex := true) (es := [ty.zeroT]) (by omega) (by simp) (by simp)
      (by intro x hx; simp at hx; subst hx; rw [hzc]; exact hzl) (by intro x hx; simp [flat] at hx; rw [hzc] at hx; exact hzs x hx)
      (by
        have : flat [ty.zeroT] = ty.zero := by simp [flat, hzc]
        rw [this]
        have hl : z.cells.toList.take ty.zero.length = z.cells.toList := by rw [List.take_of_length_le]; simp; omega
        rw [hl]; exact hzL _ _)
    refine ⟨.pointer (some ⟨w.heap.size, 0, none⟩), _, μ', .inl ?_, .ptr _ 0 0 0 _ _ k4 (Nat.le_refl _) (fun _ => by simp), k1, k2, k3⟩
    simp [execOp, ho, Instr.alloc, hz, newVar, newRow]
  | true =>
    rw [hbs] at hh
    have hh : valNew (h.new (fun b => T.ptr b 0 0 0) (newBox 1 true ty.zero)) = some (.val v h') := hh
    rw [valNew_eq_some, H.new_cons] at hh
    simp only [Option.some.injEq, Prod.mk.injEq] at hh
    obtain ⟨rfl, rfl⟩ := hh
    obtain ⟨μ', k1, k2, k3, k4⟩ := new_box s t (arr := z.cells) (cap := ty.zero.length) (sz := 1) (ex := true) (es := ty.zero) (by omega) (Nat.le_refl _) (fun _ => rfl)
      (by intro x hx; rw [scalar_cells (hzs x hx)]; rfl) (by rw [flat_scalars hzs]; exact hzs)
      (by
        rw [flat_scalars hzs]
        have hl : z.cells.toList.take ty.zero.length = z.cells.toList := by rw [List.take_of_length_le]; simp; omega
        rw [hl]; exact hzL _ _)
    refine ⟨.pointer (some ⟨w.heap.size, 0, none⟩), _, μ', .inl ?_, .ptr _ 0 0 0 _ _ k4 (Nat.le_refl _) (fun _ => by simp), k1, k2, k3⟩
    simp [execOp, ho, Instr.alloc, hz, newVar, newRow]

theorem hBox_sound {t : TypeId} {x : Operand} (s : St cx base w.heap μ h) (r : RelE w.heap μ mask e a.tmps) (ho : o.op = .box t x) {v : T}
    (hh : hBox x cx mask e h = some (.val v h')) : Done cx base w μ h.size ((execOp a.eval o).run P w) v h' := by
  replace hh := bnd_eq_some.1 hh; obtain ⟨p, hp, hh⟩ := hh
  replace hh := chk_eq_some.1 hh; obtain ⟨hg, hh⟩ := hh
  rw [valNew_eq_some, H.new_cons] at hh
  simp only [Option.some.injEq, Prod.mk.injEq] at hh
  obtain ⟨rfl, rfl⟩ := hh
  obtain ⟨hL, hsc, _⟩ := (opnd_sound s r hp).cells hg
  have hlen := hL.1
  obtain ⟨μ', k1, k2, k3, k4⟩ := new_box s t (arr := (a.eval x).cells) (cap := 1) (sz := p.cells.length) (ex := true) (es := [p]) (by simp at hlen; omega) (by simp) (by simp)
    (by intro x hx; simp at hx; subst hx; rfl) (by intro x hx; simp [flat] at hx; exact hsc x hx)
    (by
      have : flat [p] = p.cells := by simp [flat]
      rw [this, hlen, List.take_length]; exact hL)
  rw [lenN_eq]
  refine ⟨.pointer (some ⟨w.heap.size, 0, none⟩), _, μ', .inl ?_, .ptr _ 0 0 0 _ _ k4 (Nat.le_refl _) (fun _ => by simp), k1, k2, k3⟩
  simp [execOp, ho, Instr.box, newVar, newRow]

/-! ### built values -/

theorem over_eq (cs vs : List T) : over cs vs = if vs.length ≤ cs.length then some (vs ++ cs.drop vs.length) else none := by
  induction vs generalizing cs with
  | nil => rfl
  | cons v vs ih => cases cs with
    | nil => rfl
    | cons c cs =>
      show (bnd (over cs vs) fun t => some (v :: t)) = _
      rw [ih]
      by_cases hle : vs.length ≤ cs.length <;> simp [hle]

theorem splice_eq (cs : List T) (j : Nat) (vs : List T) : splice cs j vs = if j + vs.length ≤ cs.length then some (cs.take j ++ vs ++ cs.drop (j + vs.length)) else none := by
  induction j generalizing cs with
  | zero => show over cs vs = _; rw [over_eq]; simp
  | succ j ih => cases cs with
    | nil => show none = _; simp
    | cons c cs =>
      show (bnd (splice cs j vs) fun t => some (c :: t)) = _
      rw [ih]
      have e1 : j + 1 + vs.length = (j + vs.length) + 1 := by omega
      by_cases hle : j + vs.length ≤ cs.length
      · rw [if_pos hle, if_pos (by simp; omega), e1]; simp
      · rw [if_neg hle, if_neg (by simp; omega)]; rfl

theorem splice_eq_some {cs vs r : List T} {j : Nat} (hh : splice cs j vs = some r) : j + vs.length ≤ cs.length ∧ r = cs.take j ++ vs ++ cs.drop (j + vs.length) := by
  rw [splice_eq] at hh
  split at hh
  · simp at hh; exact ⟨by assumption, by rw [← hh]; simp⟩
  · simp at hh

theorem mem_splice {cs vs r : List T} {j : Nat} (hh : splice cs j vs = some r) {Q : T → Prop} (h1 : ∀ v ∈ cs, Q v) (h2 : ∀ v ∈ vs, Q v) : ∀ v ∈ r, Q v := by
  obtain ⟨_, rfl⟩ := splice_eq_some hh
  intro v hv
  rcases List.mem_append.1 hv with hv | hv
  · rcases List.mem_append.1 hv with hv | hv
    · exact h1 v (List.mem_of_mem_take hv)
    · exact h2 v hv
  · exact h1 v (List.mem_of_mem_drop hv)

/-- One step of the model's 'fill'. -/
theorem fill_step {cells : Array Value} {c : Value} {off : Nat} (hle : off + c.cells.size ≤ cells.size) :
    (c.cells.zipIdx.foldl (fun cs (x : Value × Nat) => cs.setIfInBounds (off + x.2) x.1) cells).toList = cells.toList.take off ++ c.cells.toList ++ cells.toList.drop (off + c.cells.size) := by
  have hz : c.cells.zipIdx.foldl (fun cs (x : Value × Nat) => cs.setIfInBounds (off + x.2) x.1) cells = (c.cells.toList.zipIdx 0).foldl (fun cs (x : Value × Nat) => cs.setIfInBounds (off + x.2) x.1) cells := by
    rw [← Array.foldl_toList, Array.toList_zipIdx]
  rw [hz]
  obtain ⟨h1, h2⟩ := Great.foldl_set off c.cells.toList 0 cells
  apply List.ext_getElem?
  intro k
  have := h2 k
  rw [← Array.getElem?_toList] at this
  rw [this]
  simp only [Nat.add_zero, Array.length_toList]
  rcases Nat.lt_or_ge k off with hk | hk
  · rw [if_neg (by omega), List.append_assoc, List.getElem?_append_left (by simp; omega), List.getElem?_take, if_pos hk]
    simp
  · rcases Nat.lt_or_ge k (off + c.cells.size) with hk2 | hk2
    · rw [if_pos ⟨hk, hk2, by omega⟩, List.append_assoc, List.getElem?_append_right (by simp; omega)]
      have : (cells.toList.take off).length = off := by simp; omega
      rw [this, List.getElem?_append_left (by simp; omega)]
    · rw [if_neg (by omega), List.append_assoc, List.getElem?_append_right (by simp; omega)]
      have : (cells.toList.take off).length = off := by simp; omega
      rw [this, List.getElem?_append_right (by simp; omega), List.getElem?_drop]
      simp only [Array.length_toList, Array.getElem?_toList]
      congr 1; omega

theorem fillCells_cons (place : Nat → Option (Nat × Nat)) (p : Nat × T) (ps : List (Nat × T)) (cs : List T) :
    fillCells place (p :: ps) cs = bnd (place p.1) fun q => chk (Nat.beq (lenN p.2.cells) q.2) (bnd (splice cs q.1 p.2.cells) fun cs' => fillCells place ps cs') := rfl

/-- Parts: numbers with values that stand for values. -/
def RelP (hp : Array Obj) (μ : Mu) (ps : List (Nat × T)) (qs : List (Nat × Value)) : Prop :=
  ps.length = qs.length ∧ ∀ (k : Nat) i x, ps[k]? = some (i, x) → ∃ c, qs[k]? = some (i, c) ∧ RelV hp μ x c ∧ x.good = true

theorem RelP.uncons {p : Nat × T} {ps : List (Nat × T)} {qs : List (Nat × Value)} (h : RelP hp μ (p :: ps) qs) : ∃ c qs', qs = (p.1, c) :: qs' ∧ RelV hp μ p.2 c ∧ p.2.good = true ∧ RelP hp μ ps qs' := by
  obtain ⟨hl, hk⟩ := h
  cases qs with
  | nil => simp at hl
  | cons q qs =>
    obtain ⟨c, hc, hr, hg⟩ := hk 0 p.1 p.2 (by simp)
    simp at hc; subst hc
    exact ⟨c, qs, rfl, hr, hg, by simpa using hl, fun k i x hx => by simpa using hk (k + 1) i x (by simpa using hx)⟩

theorem partsOf_sound (s : St cx base w.heap μ h) (r : RelE w.heap μ mask e a.tmps) {l : List (Nat × Operand)} {ps : List (Nat × T)} (hh : partsOf cx mask e l = some ps) :
    RelP w.heap μ ps (l.map fun p => (p.1, a.eval p.2)) := by
  unfold partsOf at hh
  obtain ⟨hl, hk⟩ := mapOpt_eq_some.1 hh
  refine ⟨by simp [hl], fun k i x hx => ?_⟩
  have hlt : k < l.length := by
    rcases Nat.lt_or_ge k ps.length with y | y
    · omega
    · rw [List.getElem?_eq_none y] at hx; simp at hx
  obtain ⟨y, hy, hf⟩ := hk k l[k] (by simp [hlt])
  rw [hx] at hy; simp at hy; subst hy
  rcases hlk : l[k] with ⟨j, op⟩
  rw [hlk] at hf
  have hf : (bnd (opnd cx mask e op) fun x => chk x.good (some (j, x))) = some (i, x) := hf
  obtain ⟨z, hz, hf⟩ := bnd_eq_some.1 hf
  obtain ⟨hg, hf⟩ := chk_eq_some.1 hf
  simp at hf
  obtain ⟨rfl, rfl⟩ := hf
  exact ⟨a.eval op, by simp [hlt, hlk], opnd_sound s r hz, hg⟩

theorem fillCells_sound {place place' : Nat → Option (Nat × Nat)} (hpl : ∀ i q, place i = some q → place' i = some q) : ∀ (ps : List (Nat × T)) (qs : List (Nat × Value)) (cs r : List T) (cells : Array Value),
    RelP hp μ ps qs → RelL hp μ cs cells.toList → (∀ v ∈ cs, v.scalar = true) → fillCells place ps cs = some r →
    ∃ out, Instr.fill place' cells qs = some out ∧ RelL hp μ r out.toList ∧ (∀ v ∈ r, v.scalar = true) ∧ out.size = cells.size := by
  intro ps
  induction ps with
  | nil =>
    intro qs cs r cells hp hL hs hh
    have : qs = [] := List.eq_nil_of_length_eq_zero hp.1.symm
    subst this
    have : r = cs := by simpa [fillCells] using hh.symm
    subst this
    exact ⟨cells, rfl, hL, hs, rfl⟩
  | cons p ps ih =>
    intro qs cs r cells hP hL hs hh
    obtain ⟨c, qs', rfl, hr, hg, hP'⟩ := hP.uncons
    rw [fillCells_cons] at hh
    obtain ⟨q, hq, hh⟩ := bnd_eq_some.1 hh
    obtain ⟨hl, hh⟩ := chk_eq_some.1 hh
    obtain ⟨cs', hsp, hh⟩ := bnd_eq_some.1 hh
    obtain ⟨cL, csc, _⟩ := hr.cells hg
    have hlen := Nat.eq_of_beq_eq_true hl
    rw [lenN_eq] at hlen
    obtain ⟨hle, hcs'⟩ := splice_eq_some hsp
    have h1 := hL.1
    have h2 := cL.1
    simp only [Array.length_toList] at h1 h2
    have hle' : q.1 + c.cells.size ≤ cells.size := by omega
    have hst := fill_step (cells := cells) (c := c) hle'
    have hL' : RelL hp μ cs' (c.cells.zipIdx.foldl (fun cs (x : Value × Nat) => cs.setIfInBounds (q.1 + x.2) x.1) cells).toList := by
      rw [hst, hcs', ← h2]
      exact ((hL.take q.1).append cL).append (by rw [h2]; exact hL.drop _)
    obtain ⟨out, o1, o2, o3, o4⟩ := ih qs' cs' r _ hP' hL' (mem_splice hsp hs csc) hh
    refine ⟨out, ?_, o2, o3, ?_⟩
    · simp only [Instr.fill, hpl _ _ hq]
      have hc : ¬ (c.cells.size ≠ q.2 || decide (q.1 + c.cells.size > cells.size)) = true := by simp; omega
      rw [if_neg hc]
      exact o1
    · rw [o4]
      have := congrArg List.length hst
      simp only [Array.length_toList, List.length_append, List.length_take, List.length_drop] at this
      omega
end
end Go.TI

/- Operations that make memory, part 2. -/
set_option linter.unusedVariables false
namespace Go.TI
section
variable {P : Program} {cx : Ctx} {base : Nat} {w : World} {μ : Mu} {h h' : H} {mask : Nat} {e : Env} {a : Act} {o : Oper} {hp hp' : Array Obj}

theorem mapM_places : ∀ (fs : List Field), (∀ f ∈ fs, ∃ i, P.info? f.type = some i ∧ i.size ≠ 0) → ∃ places, fs.mapM (fun f => (P.info? f.type).map fun i => (f.offset, i.size)) = some places ∧
    ∀ (k : Nat) f i, fs[k]? = some f → P.info? f.type = some i → places[k]? = some (f.offset, i.size)
  | [], _ => ⟨[], rfl, fun k f i hk => by simp at hk⟩
  | f :: fs, hall => by
    obtain ⟨i, hi, _⟩ := hall f (by simp)
    obtain ⟨pl, h1, h2⟩ := mapM_places fs fun g hg => hall g (by simp [hg])
    refine ⟨(f.offset, i.size) :: pl, by simp [List.mapM_cons, hi, h1], fun k g j hk hj => ?_⟩
    cases k with
    | zero => simp at hk; subst hk; rw [hi] at hj; simp at hj; subst hj; simp
    | succ k => simp at hk; simpa using h2 k g j hk hj

theorem parts_toList (parts : Array (Nat × Operand)) : (parts.map fun (i, x) => (i, a.eval x)).toList = parts.toList.map fun p => (p.1, a.eval p.2) := by
  simp

theorem hBuild_sound (tys : TysOk P cx) {t : TypeId} {parts : Array (Nat × Operand)} (s : St cx base w.heap μ h) (r : RelE w.heap μ mask e a.tmps) (ho : o.op = .build t parts) {v : T}
    (hh : hBuild t parts cx mask e h = some (.val v h')) : Done cx base w μ h.size ((execOp a.eval o).run P w) v h' := by
  replace hh := bnd_eq_some.1 hh; obtain ⟨ty, hty, hh⟩ := hh
  replace hh := bnd_eq_some.1 hh; obtain ⟨ps, hps, hh⟩ := hh
  have hP := partsOf_sound s r hps
  obtain ⟨it, d, z, h1, h2, h3, h4, h5, _⟩ := (tys.ty _ _ hty).unfold
  obtain ⟨hzL, hzs⟩ := RelL.ofCells (hp := w.heap) (μ := μ) h4
  have fin : ∀ (out : Array Value) (cs : List T), P.built t (parts.toList.map fun p => (p.1, a.eval p.2)) = some out → RelL w.heap μ cs out.toList → (∀ v ∈ cs, v.scalar = true) → v = .agg cs → h' = h →
      Done cx base w μ h.size ((execOp a.eval o).run P w) v h' := by
    rintro out cs hb hL hs rfl rfl
    refine Done.pure s ?_ (RelV.aggOf hL hs)
    rw [← parts_toList] at hb
    simp only [execOp, ho, Sem.run_bind, run_build w t _ out hb, Result.andThen_ok, Sem.run_pure]
  cases hut : ty.u <;> rw [hut] at hh h5 <;> simp at hh
  · rename_i n el
    have := uOf_array h5; subst this
    replace hh := bnd_eq_some.1 hh; obtain ⟨te, hte, hh⟩ := hh
    replace hh := bnd_eq_some.1 hh; obtain ⟨cs, hcs, hh⟩ := hh
    obtain ⟨hv, rfl⟩ := val_eq_some.1 hh
    simp at hv; subst hv
    obtain ⟨ie, _, _, g1, _, _, _, _, _, _, g8, _⟩ := (tys.ty _ _ hte).unfold
    obtain ⟨out, o1, o2, o3, _⟩ := fillCells_sound (place' := fun i => some (i * ie.size, ie.size)) (by intro i q hq; rw [g8]; exact hq) ps _ _ _ z.cells hP hzL hzs hcs
    exact fin out cs (by simp only [Program.built, h1, h2, h3, g1]; exact o1) o2 o3 rfl rfl
  · rename_i fs
    obtain ⟨fields, rfl, hfs, hall⟩ := uOf_struct h5
    replace hh := bnd_eq_some.1 hh; obtain ⟨cs, hcs, hh⟩ := hh
    obtain ⟨hv, rfl⟩ := val_eq_some.1 hh
    simp at hv; subst hv
    obtain ⟨places, hpl, hpl2⟩ := mapM_places fields.toList hall
    obtain ⟨out, o1, o2, o3, _⟩ := fillCells_sound (place' := fun i => places.toArray[i]?) (by
      intro i q hq
      obtain ⟨f, hf, hq⟩ := bnd_eq_some.1 hq
      obtain ⟨tf, htf, hq⟩ := bnd_eq_some.1 hq
      simp at hq
      rw [hfs] at hf
      rw [List.getElem?_map] at hf
      cases hfi : fields.toList[i]? with
      | none => rw [hfi] at hf; simp at hf
      | some fl =>
        rw [hfi] at hf; simp at hf
        obtain ⟨ie, _, _, g1, _, _, _, _, _, _, g8, _⟩ := (tys.ty _ _ htf).unfold
        rw [← hf] at g1
        have := hpl2 i fl ie hfi g1
        rw [← hf] at hq
        simp only [] at hq
        rw [← hq, ← g8]
        simpa using this) ps _ _ _ z.cells hP hzL hzs hcs
    exact fin out cs (by simp only [Program.built, h1, h2, h3, hpl]; exact o1) o2 o3 rfl rfl

/-! ### slices -/

theorem flat_set {sz : Nat} {es : List T} (hu : ∀ v ∈ es, v.cells.length = sz) {i : Nat} (hi : i < es.length) (v : T) : flat (es.set i v) = (flat es).take (i * sz) ++ v.cells ++ (flat es).drop (i * sz + sz) := by
  rw [flat_take hu, ← Nat.succ_mul, flat_drop hu, List.set_eq_take_append_cons_drop, if_pos hi, flat_append, flat_cons, List.append_assoc]

theorem flat_replicate {z : T} (n : Nat) : flat (List.replicate n z) = (List.replicate n z.cells).flatten := by
  induction n with
  | zero => rfl
  | succ n ih => rw [List.replicate_succ, flat_cons, ih, List.replicate_succ, List.flatten_cons]

theorem range_mod {zs : Array Value} (n : Nat) (hpos : 0 < zs.size) : ((Array.range (n * zs.size)).map (zs[· % zs.size]!)).toList = (List.replicate n zs.toList).flatten := by
  induction n with
  | zero => simp
  | succ n ih =>
    have hsplit : (Array.range ((n + 1) * zs.size)).toList = (Array.range (n * zs.size)).toList ++ (List.range zs.size).map (n * zs.size + ·) := by
      simp only [Array.toList_range]
      rw [Nat.succ_mul, List.range_add]
    rw [Array.toList_map, hsplit, List.map_append, ← Array.toList_map, ih, List.replicate_succ', List.flatten_append]
    congr 1
    simp only [List.flatten_cons, List.flatten_nil, List.append_nil, List.map_map]
    apply List.ext_getElem
    · simp
    · intro k h1 h2
      simp at h1
      simp [Nat.mul_add_mod, Nat.mod_eq_of_lt h1, h1]

theorem RelL.replicate {zs : List T} {cs : List Value} (hL : RelL hp μ zs cs) (n : Nat) : RelL hp μ (List.replicate n zs).flatten (List.replicate n cs).flatten := by
  induction n with
  | zero => exact RelL.nil
  | succ n ih => rw [List.replicate_succ, List.replicate_succ, List.flatten_cons, List.flatten_cons]; exact hL.append ih

theorem fillElems_cons (sz : Nat) (i : Nat) (v : T) (ps : List (Nat × T)) (es : List T) : fillElems sz ((i, v) :: ps) es = chk (Nat.beq (lenN v.cells) sz) (bnd (setNth es i v) fun es' => fillElems sz ps es') := rfl

theorem fillElems_sound {sz : Nat} (hsz : 0 < sz) : ∀ (ps : List (Nat × T)) (qs : List (Nat × Value)) (es r : List T) (cells : Array Value),
    RelP hp μ ps qs → (∀ v ∈ es, v.cells.length = sz) → RelL hp μ (flat es) cells.toList → (∀ v ∈ flat es, v.scalar = true) → fillElems sz ps es = some r →
    ∃ out, Instr.fill (fun i => some (i * sz, sz)) cells qs = some out ∧ RelL hp μ (flat r) out.toList ∧ (∀ v ∈ flat r, v.scalar = true) ∧ (∀ v ∈ r, v.cells.length = sz) ∧ r.length = es.length := by
  intro ps
  induction ps with
  | nil =>
    intro qs es r cells hp hu hL hs hh
    have : qs = [] := List.eq_nil_of_length_eq_zero hp.1.symm
    subst this
    have : r = es := by simpa [fillElems] using hh.symm
    subst this
    exact ⟨cells, rfl, hL, hs, hu, rfl⟩
  | cons p ps ih =>
    intro qs es r cells hP hu hL hs hh
    obtain ⟨c, qs', rfl, hr, hg, hP'⟩ := hP.uncons
    obtain ⟨i, v⟩ := p
    rw [fillElems_cons] at hh
    obtain ⟨hl, hh⟩ := chk_eq_some.1 hh
    obtain ⟨es', hst, hh⟩ := bnd_eq_some.1 hh
    have hlen := Nat.eq_of_beq_eq_true hl
    rw [lenN_eq] at hlen
    rw [setNth_eq] at hst
    split at hst
    · rename_i hi
      simp at hst; subst hst
      obtain ⟨cL, csc, _⟩ := hr.cells hg
      have h1 := hL.1
      have h2 := cL.1
      simp only [Array.length_toList] at h1 h2
      have hfl := flat_length hu
      have hle : i * sz + c.cells.size ≤ cells.size := by
        rw [← h1, hfl, ← h2, hlen, ← Nat.succ_mul]
        exact Nat.mul_le_mul_right _ hi
      have hstep := fill_step (cells := cells) (c := c) hle
      have hfs := flat_set hu hi v
      have hu' : ∀ x ∈ es.set i v, x.cells.length = sz := by
        intro x hx
        rcases List.mem_or_eq_of_mem_set hx with k | rfl
        · exact hu x k
        · exact hlen
      have hL' : RelL hp μ (flat (es.set i v)) (c.cells.zipIdx.foldl (fun cs (x : Value × Nat) => cs.setIfInBounds (i * sz + x.2) x.1) cells).toList := by
        rw [hstep, hfs]
        have : c.cells.size = sz := by omega
        rw [this]
        exact ((hL.take _).append cL).append (hL.drop _)
      have hs' : ∀ x ∈ flat (es.set i v), x.scalar = true := by
        intro x hx
        rw [hfs] at hx
        rcases List.mem_append.1 hx with hx | hx
        · rcases List.mem_append.1 hx with hx | hx
          · exact hs x (List.mem_of_mem_take hx)
          · exact csc x hx
        · exact hs x (List.mem_of_mem_drop hx)
      obtain ⟨out, o1, o2, o3, o4, o5⟩ := ih qs' _ r _ hP' hu' hL' hs' hh
      refine ⟨out, ?_, o2, o3, o4, by simpa using o5⟩
      simp only [Instr.fill]
      have hc : ¬ (c.cells.size ≠ sz || decide (i * sz + c.cells.size > cells.size)) = true := by simp; omega
      rw [if_neg hc]
      exact o1
    · simp at hst

theorem hBuildSlice_sound (tys : TysOk P cx) {t : TypeId} {len : Nat} {parts : Array (Nat × Operand)} (s : St cx base w.heap μ h) (r : RelE w.heap μ mask e a.tmps) (ho : o.op = .buildSlice t len parts) {v : T}
    (hh : hBuildSlice t len parts cx mask e h = some (.val v h')) : Done cx base w μ h.size ((execOp a.eval o).run P w) v h' := by
  replace hh := bnd_eq_some.1 hh; obtain ⟨ty, hty, hh⟩ := hh
  obtain ⟨d, hd, hu⟩ := und_of (tys.ty _ _ hty)
  cases hut : ty.u <;> rw [hut] at hh hu <;> simp at hh
  rename_i el
  have := uOf_slice hu; subst this
  replace hh := bnd_eq_some.1 hh; obtain ⟨te, hte, hh⟩ := hh
  replace hh := bnd_eq_some.1 hh; obtain ⟨ps, hps, hh⟩ := hh
  replace hh := chk_eq_some.1 hh; obtain ⟨hpos, hh⟩ := hh
  replace hh := chk_eq_some.1 hh; obtain ⟨hsmall, hh⟩ := hh
  replace hh := bnd_eq_some.1 hh; obtain ⟨es, hes, hh⟩ := hh
  rw [valNew_eq_some, H.new_cons] at hh
  simp only [Option.some.injEq, Prod.mk.injEq] at hh
  obtain ⟨rfl, rfl⟩ := hh
  have hpos := Nat.le_of_ble_eq_true hpos
  have hsmall := Nat.le_of_ble_eq_true hsmall
  have hsmall : len * te.size ≤ 65536 := hsmall
  rw [← replicateN_eq] at *
  have hP := partsOf_sound s r hps
  obtain ⟨z, hz, hzV, hzL, hzs, hzl, hzc, hzg, hzz⟩ := (tys.ty _ _ hte).zero w
  have hcells : ∃ cells : Array Value, (if len * te.size = 0 then (pure #[] : Sem (Array Value)) else do pure (← zeroValue el).cells).run P w = .ok (if len * te.size = 0 then #[] else z.cells) w ∧
      ((Array.range (len * te.size)).map ((if len * te.size = 0 then #[] else z.cells)[· % (if len * te.size = 0 then #[] else z.cells).size]!)) = cells ∧ RelL w.heap μ (flat (List.replicate len te.zeroT)) cells.toList := by
    by_cases h0 : len * te.size = 0
    · have hl0 : len = 0 := by
        rcases Nat.mul_eq_zero.1 h0 with k | k
        · exact k
        · omega
      subst hl0
      refine ⟨_, by simp, rfl, ?_⟩
      simp [flat]
      exact RelL.nil
    · refine ⟨_, by simp [h0, hz], rfl, ?_⟩
      rw [if_neg h0, ← hzz, range_mod len (by omega), flat_replicate, hzc]
      exact (hzL _ _).replicate len
  obtain ⟨cells, hz1, hz2, hz3⟩ := hcells
  have hu0 : ∀ v ∈ List.replicate len te.zeroT, v.cells.length = te.size := by
    intro v hv; rw [List.eq_of_mem_replicate hv, hzc]; exact hzl
  have hs0 : ∀ v ∈ flat (List.replicate len te.zeroT), v.scalar = true := by
    intro v hv
    obtain ⟨y, hy, hv⟩ := List.mem_flatMap.1 hv
    rw [List.eq_of_mem_replicate hy, hzc] at hv
    exact hzs v hv
  rw [replicateN_eq] at hes
  obtain ⟨out, o1, o2, o3, o4, o5⟩ := fillElems_sound (by omega) ps _ _ es cells hP hu0 hz3 hs0 hes
  have hel : es.length = len := by simpa using o5
  have hout : out.size = len * te.size := by
    have := o2.1
    rw [flat_length o4, hel] at this
    simpa using this.symm
  obtain ⟨μ', k1, k2, k3, k4⟩ := new_box s el (arr := out) (cap := len) (sz := te.size) (ex := true) (es := es) hout (by omega) (by omega) o4 o3 (by
    rw [List.take_of_length_le]
    · exact o2
    · have := o2.1; simp at this ⊢; omega)
  refine ⟨.slice (some ⟨w.heap.size, 0, none⟩) len len, _, μ', .inl ?_, .arr _ 0 0 len false _ _ len k4 (Nat.le_refl _) (Nat.le_refl _) (fun _ => ⟨by simp, by simp, by simp⟩), k1, k2, k3⟩
  have hnl : ¬ len * te.size > 2 ^ 24 := by omega
  have hfill : Instr.fill (fun i => some (i * te.size, te.size)) cells (parts.map fun (i, x) => (i, a.eval x)).toList = some out := by rw [parts_toList]; exact o1
  by_cases h0 : len * te.size = 0
  · have hc0 : cells = #[] := by rw [← hz2, h0]; simp
    rw [hc0] at o1
    have hr0 : Array.map (fun _ => (default : Value)) (Array.range 0) = #[] := by simp
    simp [execOp, ho, Instr.buildSlice, run_underlying hd, (tys.ty _ _ hte).run_sizeOf, h0, hr0, o1, newRow]
  · simp only [h0, if_false] at hz2
    simp [execOp, ho, Instr.buildSlice, run_underlying hd, (tys.ty _ _ hte).run_sizeOf, h0, hnl, hz, hz2, o1, newRow]

set_option maxRecDepth 20000 in
theorem hMakeSlice_sound (tys : TysOk P cx) {t : TypeId} {x y : Operand} (s : St cx base w.heap μ h) (r : RelE w.heap μ mask e a.tmps) (ho : o.op = .makeSlice t x y) {v : T}
    (hh : hMakeSlice t x y cx mask e h = some (.val v h')) : Done cx base w μ h.size ((execOp a.eval o).run P w) v h' := by
  replace hh := bnd_eq_some.1 hh; obtain ⟨ty, hty, hh⟩ := hh
  obtain ⟨d, hd, hu⟩ := und_of (tys.ty _ _ hty)
  cases hut : ty.u <;> rw [hut] at hh hu <;> simp at hh
  rename_i el
  have := uOf_slice hu; subst this
  replace hh := bnd_eq_some.1 hh; obtain ⟨te, hte, hh⟩ := hh
  replace hh := bnd_eq_some.1 hh; obtain ⟨p, hp, hh⟩ := hh
  replace hh := bnd_eq_some.1 hh; obtain ⟨q, hq, hh⟩ := hh
  replace hh := bnd_eq_some.1 hh; obtain ⟨l, hl, hh⟩ := hh
  replace hh := bnd_eq_some.1 hh; obtain ⟨c, hc, hh⟩ := hh
  replace hh := chk_eq_some.1 hh; obtain ⟨hpos, hh⟩ := hh
  replace hh := chk_eq_some.1 hh; obtain ⟨hbp, hh⟩ := hh
  replace hh := chk_eq_some.1 hh; obtain ⟨hle, hh⟩ := hh
  replace hh := chk_eq_some.1 hh; obtain ⟨hsm, hh⟩ := hh
  rw [valNew_eq_some, H.new_cons] at hh
  simp only [Option.some.injEq, Prod.mk.injEq] at hh
  obtain ⟨rfl, rfl⟩ := hh
  have hpos := Nat.le_of_ble_eq_true hpos
  have hbp := Nat.le_of_ble_eq_true hbp
  have hle := Nat.le_of_ble_eq_true hle
  have hsm : c * te.bytes ≤ 70368744177664 := Nat.le_of_ble_eq_true hsm
  obtain ⟨k1, rfl⟩ := toIdx_eq_some hl
  obtain ⟨k2, rfl⟩ := toIdx_eq_some hc
  have hx := (opnd_sound s r hp).inv_int
  have hy := (opnd_sound s r hq).inv_int
  obtain ⟨z, hz, hzV, hzL, hzs, hzl, hzc, hzg, hzz⟩ := (tys.ty _ _ hte).zero w
  obtain ⟨ti, hti, htb, hts⟩ := (tys.ty _ _ hte).run_typeInfo w
  have hcs : c ≤ 70368744177664 := Nat.le_trans (Nat.le_mul_of_pos_right c (by omega)) hsm
  have hcells : ∃ cells : Array Value, (if c * te.size = 0 then (pure #[] : Sem (Array Value)) else do pure (← zeroValue el).cells).run P w = .ok (if c * te.size = 0 then #[] else z.cells) w ∧
      ((Array.range (c * te.size)).map ((if c * te.size = 0 then #[] else z.cells)[· % (if c * te.size = 0 then #[] else z.cells).size]!)) = cells ∧ RelL w.heap μ (flat (List.replicate c te.zeroT)) cells.toList := by
    by_cases h0 : c * te.size = 0
    · have hl0 : c = 0 := by
        rcases Nat.mul_eq_zero.1 h0 with k | k
        · exact k
        · omega
      subst hl0
      refine ⟨_, by simp, rfl, ?_⟩
      simp [flat]
      exact RelL.nil
    · refine ⟨_, by simp [h0, hz], rfl, ?_⟩
      rw [if_neg h0, ← hzz, range_mod c (by omega), flat_replicate, hzc]
      exact (hzL _ _).replicate c
  obtain ⟨cells, hz1, hz2, hz3⟩ := hcells
  have hu0 : ∀ n, ∀ v ∈ List.replicate n te.zeroT, v.cells.length = te.size := by
    intro n v hv; rw [List.eq_of_mem_replicate hv, hzc]; exact hzl
  have hs0 : ∀ v ∈ flat (List.replicate l te.zeroT), v.scalar = true := by
    intro v hv
    obtain ⟨y, hy, hv⟩ := List.mem_flatMap.1 hv
    rw [List.eq_of_mem_replicate hy, hzc] at hv
    exact hzs v hv
  have hout : cells.size = c * te.size := by
    have := hz3.1
    rw [flat_length (hu0 c)] at this
    simpa using this.symm
  obtain ⟨μ', q1, q2, q3, q4⟩ := new_box s el (arr := cells) (cap := c) (sz := te.size) (ex := Nat.beq l c) (es := List.replicate l te.zeroT) hout (by simpa using hle) (by intro hb; simp; exact (Nat.eq_of_beq_eq_true hb).symm) (hu0 l) hs0 (by
    rw [flat_length (hu0 l), List.length_replicate]
    have := hz3.take (l * te.size)
    rw [flat_take (hu0 c)] at this
    rw [List.take_replicate, Nat.min_eq_left hle] at this
    exact this)
  refine ⟨.slice (some ⟨w.heap.size, 0, none⟩) l c, _, μ', .inl ?_, .arr _ 0 0 l false _ _ c q4 (Nat.le_refl _) hle (fun _ => ⟨by simp, by simp, by simp⟩), q1, q2, q3⟩
  have e1 : IntKind.i64.wrap (Int.ofNat c) = (c : Int) := IntWalk.i64_in (c : Int) ⟨by omega, by omega⟩
  have e2 : IntKind.i64.wrap (Int.ofNat l) = (l : Int) := IntWalk.i64_in (l : Int) ⟨by omega, by omega⟩
  have t1 : ¬ ((te.bytes : Int) * (c : Int) > 2 ^ 48) := by
    have : ((c * te.bytes : Nat) : Int) ≤ 70368744177664 := Int.ofNat_le.2 hsm
    rw [Int.mul_comm]; push_cast at this; omega
  have t2 : (decide ((c : Int) < 0) || decide ((te.bytes : Int) * (c : Int) > 2 ^ 48) || decide ((l : Int) < 0) || decide ((l : Int) > (c : Int))) = false := by
    simp only [Bool.or_eq_false_iff, decide_eq_false_iff_not]
    exact ⟨⟨⟨by omega, t1⟩, by omega⟩, by omega⟩
  by_cases h0 : c * te.size = 0
  · simp only [h0, if_true] at hz2
    simp only [execOp, ho, Instr.makeSlice, Sem.run_bind, run_underlying hd, Result.andThen_ok, hx, hy, asInt, asIntOf, Sem.run_pure, hti, htb, e1, e2, t2, Bool.false_eq_true, if_false, run_askRoom, (tys.ty _ _ hte).run_sizeOf, Int.toNat_natCast, h0, if_true, hz2, newRow, run_newObj]
  · simp only [h0, if_false] at hz2
    simp only [execOp, ho, Instr.makeSlice, Sem.run_bind, run_underlying hd, Result.andThen_ok, hx, hy, asInt, asIntOf, Sem.run_pure, hti, htb, e1, e2, t2, Bool.false_eq_true, if_false, run_askRoom, (tys.ty _ _ hte).run_sizeOf, Int.toNat_natCast, h0, hz, hz2, newRow, run_newObj]

theorem hRange_sound {t : TypeId} {x : Operand} (s : St cx base w.heap μ h) (r : RelE w.heap μ mask e a.tmps) (ho : o.op = .range t x) (hstr : P.underlying t = some .string) {v : T}
    (hh : hRange x cx mask e h = some (.val v h')) : Done cx base w μ h.size ((execOp a.eval o).run P w) v h' := by
  replace hh := bnd_eq_some.1 hh; obtain ⟨p, hp, hh⟩ := hh
  cases p <;> simp at hh
  rename_i str
  rw [valNew_eq_some, H.new_cons] at hh
  simp only [Option.some.injEq, Prod.mk.injEq] at hh
  obtain ⟨rfl, rfl⟩ := hh
  obtain ⟨e1, b1⟩ := (opnd_sound s r hp).inv_str
  obtain ⟨k1, k2, k3⟩ := s.new (.stringIter (bytesOf str) 0) ⟨0, w.heap.size, 0, 1⟩ ⟨1, 0, 0, true, true, [.str str, .int .i64 0]⟩ rfl (by
    intro hext
    refine ⟨rfl, rfl, fun k => by simp at k, fun _ => ⟨rfl, .inl ⟨str, 0, rfl, b1, by simp⟩⟩⟩)
  refine ⟨.pointer (some ⟨w.heap.size, 0, none⟩), { w with heap := w.heap.push (.stringIter (bytesOf str) 0) }, _, .inl ?_, .iter _ _ _ (setMu_same _ _ _) (fun _ => rfl), k1, ⟨k2, rfl, rfl, rfl⟩, k3⟩
  simp [execOp, ho, Instr.range, run_underlying hstr, e1]
end
end Go.TI

/- Operations that write: stores, iterators, append, copy, clear. -/
set_option linter.unusedVariables false
namespace Go.TI
section
variable {P : Program} {cx : Ctx} {base : Nat} {w : World} {μ : Mu} {h h' : H} {mask : Nat} {e : Env} {a : Act} {o : Oper} {hp hp' : Array Obj}

theorem St.row_of (s : St cx base hp μ h) {b : Nat} {L : Loc} {x : Box} (hb : μ b = some L) (hg : h.get b = some x) (hi : x.it = false) : CellsOk hp μ L x.exact x.elems ∧ x.ep = L.ep ∧ x.sz = L.sz := by
  obtain ⟨y, h1, h2⟩ := s.box b L hb
  rw [hg] at h1; simp at h1; subst h1
  exact ⟨h2.plain hi, h2.ep, h2.sz⟩

/-- A box's row is written in place. -/
theorem write_row (s : St cx base w.heap μ h) {b : Nat} {L : Loc} {x : Box} (hb : μ b = some L) (hg : h.get b = some x) (hi : x.it = false) {arr arr' : Array Value} {t : TypeId} (hrow : w.heap[L.blk]? = some (.cells arr t (0, 0)))
    {ep' ver' : Nat} {ex' : Bool} {es' : List T} (hep : ep' = L.ep ∨ ep' = L.ep + 1) (hput : h.put b ⟨x.sz, ep', ver', ex', false, es'⟩ = some h') (hsz : arr'.size = L.cap * L.sz) (hroom : es'.length ≤ L.cap) (hex : ex' = true → L.cap = es'.length)
    (hu : ∀ v ∈ es', v.cells.length = L.sz) (hsc : ∀ v ∈ flat es', v.scalar = true) (hL : RelL w.heap μ (flat es') (arr'.toList.take (flat es').length)) :
    ∃ μ', St cx base (w.setRow L.blk arr').heap μ' h' ∧ ExtW w μ (w.setRow L.blk arr') μ' ∧ Dom μ μ' h.size h'.size ∧ μ' b = some ⟨ep', L.blk, L.cap, L.sz⟩ := by
  obtain ⟨c, hxe, hxs⟩ := s.row_of hb hg hi
  have hother : ∀ i, i < w.heap.size → i ≠ L.blk → (w.setRow L.blk arr').heap[i]? = w.heap[i]? := fun i _ hne => setRow_other w L.blk i arr' hne
  have hsame := setRow_heap w L.blk arr arr' t (0, 0) hrow
  obtain ⟨k1, k2, k3⟩ := s.change (L' := ⟨ep', L.blk, L.cap, L.sz⟩) hb hput (by simp) hother (by
    rcases hep with rfl | rfl
    · exact .inl rfl
    · exact .inr ⟨by simp, .inl rfl⟩) (by
    intro hext
    refine ⟨rfl, hxs, fun _ => ⟨⟨arr', t, hsame, hsz, hL.ext hext⟩, hroom, hex, hu, hsc⟩, fun k => by simp at k⟩)
  exact ⟨_, k1, ⟨k2, rfl, rfl, rfl⟩, k3, setMu_same _ _ _⟩

theorem take_splice {α : Type} (l vs : List α) {o N : Nat} (h1 : o + vs.length ≤ N) (h2 : N ≤ l.length) : (l.take o ++ vs ++ l.drop (o + vs.length)).take N = (l.take N).take o ++ vs ++ (l.take N).drop (o + vs.length) := by
  rw [List.take_append, List.take_append]
  have e1 : (l.take o).take N = (l.take N).take o := by rw [List.take_take, List.take_take, Nat.min_comm]
  have e2 : (l.take o).length = o := by simp; omega
  have e3 : (l.take o ++ vs).length = o + vs.length := by simp; omega
  rw [e1, e2, e3]
  congr 1
  · congr 1
    rw [List.take_of_length_le (by omega)]
  · rw [List.drop_take]

theorem setIn_eq {x x' : T} {j : Nat} {vs : List T} (hvs : ∀ v ∈ vs, v.scalar = true) (hh : setIn x j vs = some x') :
    j + vs.length ≤ x.cells.length ∧ x'.cells = x.cells.take j ++ vs ++ x.cells.drop (j + vs.length) := by
  by_cases hagg : ∃ cs, x = .agg cs
  · obtain ⟨cs, rfl⟩ := hagg
    obtain ⟨r, h1, h2⟩ := bnd_eq_some.1 hh
    simp at h2; subst h2
    exact splice_eq_some h1
  · have hone : x.cells = [x] := by cases x <;> first | rfl | exact absurd ⟨_, rfl⟩ hagg
    have hkey : j = 0 ∧ vs = [x'] := by
      unfold setIn at hh
      cases x <;> first | (exact absurd ⟨_, rfl⟩ hagg) | (simp only [] at hh; split at hh <;> simp at hh; subst hh; exact ⟨rfl, rfl⟩)
    obtain ⟨rfl, rfl⟩ := hkey
    have hs := hvs x' (by simp)
    have : x'.cells = [x'] := by cases x' <;> simp [T.scalar] at hs <;> rfl
    rw [hone, this]
    simp

theorem hStore_sound (tys : TysOk P cx) {t : TypeId} {x y : Operand} (s : St cx base w.heap μ h) (r : RelE w.heap μ mask e a.tmps) (ho : o.op = .store t x y) {v : T}
    (hh : hStore t x y cx mask e h = some (.val v h')) : Done cx base w μ h.size ((execOp a.eval o).run P w) v h' := by
  replace hh := bnd_eq_some.1 hh; obtain ⟨ty, hty, hh⟩ := hh
  replace hh := bnd_eq_some.1 hh; obtain ⟨p, hp, hh⟩ := hh
  replace hh := bnd_eq_some.1 hh; obtain ⟨q, hq, hh⟩ := hh
  replace hh := chk_eq_some.1 hh; obtain ⟨hgood, hh⟩ := hh
  replace hh := bnd_eq_some.1 hh; obtain ⟨h2, hst, hh⟩ := hh
  simp at hh; obtain ⟨rfl, rfl⟩ := hh
  have hx := opnd_sound s r hp
  obtain ⟨qL, qs, q1⟩ := (opnd_sound s r hq).cells hgood
  have hptr : ∃ b ep i j, p = .ptr b ep i j := by
    unfold H.store at hst
    cases p <;> first | (exact ⟨_, _, _, _, rfl⟩) | (simp at hst)
  obtain ⟨b, ep, i, j, rfl⟩ := hptr
  unfold H.store at hst
  replace hst := chk_eq_some.1 hst; obtain ⟨hlen, hst⟩ := hst
  replace hst := bnd_eq_some.1 hst; obtain ⟨bx, hbx, hst⟩ := hst
  obtain ⟨sz, ep', ver, ex, it, elems⟩ := bx
  have hst : chk (Nat.beq ep' ep) (@Bool.rec (fun _ => Option H) (bnd (nthD elems i) fun e0 => bnd (setIn e0 j q.cells) fun e1 => bnd (setNth elems i e1) fun es => bnd (normNat (Nat.succ ver)) fun ver' => h.put b ⟨sz, ep', ver', ex, false, es⟩) none it) = some h2 := hst
  replace hst := chk_eq_some.1 hst; obtain ⟨hep, hst⟩ := hst
  cases it with
  | true => simp at hst
  | false =>
    have hst : (bnd (nthD elems i) fun e0 => bnd (setIn e0 j q.cells) fun e1 => bnd (setNth elems i e1) fun es => bnd (normNat (Nat.succ ver)) fun ver' => h.put b ⟨sz, ep', ver', ex, false, es⟩) = some h2 := hst
    replace hst := bnd_eq_some.1 hst; obtain ⟨e0, he0, hst⟩ := hst
    replace hst := bnd_eq_some.1 hst; obtain ⟨e1, he1, hst⟩ := hst
    replace hst := bnd_eq_some.1 hst; obtain ⟨es, hes, hst⟩ := hst
    simp only [normNat_eq, bnd_some] at hst
    rw [nthD_eq] at he0
    have hep := Nat.eq_of_beq_eq_true hep
    have hlen := Nat.eq_of_beq_eq_true hlen
    rw [lenN_eq] at hlen
    rw [setNth_eq] at hes
    split at hes
    · rename_i hi
      simp at hes; subst hes
      obtain ⟨L, ad, hq', hb, _, ha⟩ := hx.inv_ptr
      obtain ⟨c, g1, g2⟩ := s.row_of hb hbx rfl
      simp only [] at g1 g2
      have hadr := ha (by omega)
      subst hadr
      obtain ⟨arr, t', hrow, hsize, hL⟩ := c.row
      have hu := c.size
      simp only [] at hu hL
      have hmem : e0 ∈ elems := List.mem_of_getElem? he0
      obtain ⟨hle, hcells⟩ := setIn_eq qs he1
      have he0l := hu e0 hmem
      have he0g : elems[i] = e0 := by rw [List.getElem?_eq_getElem hi] at he0; simpa using he0
      -- the flat row
      have hfl := flat_length hu
      have hflat : flat (elems.set i e1) = (flat elems).take (i * L.sz + j) ++ q.cells ++ (flat elems).drop (i * L.sz + j + q.cells.length) := by
        rw [flat_set hu hi, hcells]
        have hd : (flat elems).drop (i * L.sz) = e0.cells ++ (flat elems).drop (i * L.sz + L.sz) := by
          rw [← Nat.succ_mul, flat_drop hu, flat_drop hu, List.drop_eq_getElem_cons hi, he0g, flat_cons]
        have ht : (flat elems).take (i * L.sz + j) = (flat elems).take (i * L.sz) ++ e0.cells.take j := by
          rw [List.take_add, hd, List.take_append_of_le_length (by omega)]
        have hdd : (flat elems).drop (i * L.sz + j + q.cells.length) = e0.cells.drop (j + q.cells.length) ++ (flat elems).drop (i * L.sz + L.sz) := by
          rw [Nat.add_assoc, ← List.drop_drop, hd, List.drop_append_of_le_length hle]
        rw [ht, hdd]
        simp [List.append_assoc]
      have hbound : i * L.sz + j + q.cells.length ≤ (flat elems).length := by
        rw [hfl]
        have : (i + 1) * L.sz ≤ elems.length * L.sz := Nat.mul_le_mul_right _ hi
        rw [Nat.succ_mul] at this
        omega
      have hNle : (flat elems).length ≤ arr.size := by
        rw [hfl, hsize]; exact Nat.mul_le_mul_right _ c.room
      have hql := qL.1
      have hu' : ∀ v ∈ elems.set i e1, v.cells.length = L.sz := by
        intro v hv
        rcases List.mem_or_eq_of_mem_set hv with k | rfl
        · exact hu v k
        · rw [hcells]; simp; omega
      have hsc' : ∀ v ∈ flat (elems.set i e1), v.scalar = true := by
        intro v hv
        rw [hflat] at hv
        rcases List.mem_append.1 hv with hv | hv
        · rcases List.mem_append.1 hv with hv | hv
          · exact c.scalar v (List.mem_of_mem_take hv)
          · exact qs v hv
        · exact c.scalar v (List.mem_of_mem_drop hv)
      have hfl' : (flat (elems.set i e1)).length = (flat elems).length := by
        rw [flat_length hu', hfl]; simp
      have hLa : RelL w.heap μ (flat (elems.set i e1)) ((arr.toList.take (i * L.sz + j) ++ (a.eval y).cells.toList ++ arr.toList.drop (i * L.sz + j + (a.eval y).cells.toList.length)).toArray.toList.take (flat (elems.set i e1)).length) := by
        rw [hfl', hflat]
        rw [List.toList_toArray, take_splice _ _ (by omega) (by simpa using hNle)]
        rw [← hql]
        exact ((hL.take _).append qL).append (hL.drop _)
      obtain ⟨μ', k1, k2, k3, k4⟩ := write_row s hb hbx rfl hrow (.inl g1) hst (arr' := (arr.toList.take (i * L.sz + j) ++ (a.eval y).cells.toList ++ arr.toList.drop (i * L.sz + j + (a.eval y).cells.toList.length)).toArray)
        (by simp only [List.size_toArray, List.length_append, List.length_take, List.length_drop, Array.length_toList] at hql ⊢; rw [← hsize]; omega) (by simpa using c.room) (by intro k; have := c.exact_ k; simpa using this) hu' hsc' hLa
      refine ⟨Go.undef, _, μ', .inr ⟨?_, rfl⟩, .undef, k1, k2, k3⟩
      have hrun := run_storeCells_at (P := P) L.blk (i * L.sz + j) t' (a.eval y).cells.toList 0 arr w hrow (by simp only [Nat.add_zero]; omega) q1
      simp only [Nat.add_zero] at hrun
      have hsze : (a.eval y).cells.size = ty.size := by rw [← hlen, hql]; simp
      simp only [execOp, ho, Instr.storeAt, Sem.run_bind, hq', Instr.sureAddr, Sem.run_pure, Result.andThen_ok, storeVar, (tys.ty _ _ hty).run_sizeOf, hsze, ne_eq, not_true, if_false, hrun]
    · simp at hes
end
end Go.TI

/- 'append'. -/
set_option linter.unusedVariables false
namespace Go.TI
section
variable {P : Program} {cx : Ctx} {base : Nat} {w : World} {μ : Mu} {h h' : H} {mask : Nat} {e : Env} {a : Act} {o : Oper} {hp hp' : Array Obj}

theorem fits_eq {sz : Nat} {es : List T} (hh : fits sz es = true) {n : Nat} (hu : ∀ v ∈ es, v.cells.length = n) : ∀ v ∈ es, v.cells.length = sz := by
  cases es with
  | nil => intro v hv; simp at hv
  | cons x es =>
    have hh : Nat.beq (lenN x.cells) sz = true := hh
    have := Nat.eq_of_beq_eq_true hh
    rw [lenN_eq] at this
    have hx := hu x (by simp)
    intro v hv
    rw [hu v hv]; omega

/-- The cells that a slice's elements take, as they lie. -/
structure Items (P : Program) (w : World) (μ : Mu) (c : Value) (es : List T) (sz : Nat) : Prop where
  uni : ∀ v ∈ es, v.cells.length = sz
  scalar : ∀ v ∈ flat es, v.scalar = true
  form : ∃ ad cap news, c = .slice ad es.length cap ∧ es.length ≤ cap ∧ RelL w.heap μ (flat es) news ∧ (∀ u ∈ news, u.oneCell' = true) ∧
    ((ad = none ∧ es = []) ∨ ∃ x : Addr, ad = some x ∧ ∀ (j : Nat) u, news[j]? = some u → w.cell? (x.add j) = some u)

theorem RelL.oneCell {vs : List T} {cs : List Value} (hL : RelL hp μ vs cs) (hs : ∀ v ∈ vs, v.scalar = true) : ∀ u ∈ cs, u.oneCell' = true := by
  intro u hu
  obtain ⟨k, hk, rfl⟩ := List.getElem_of_mem hu
  have hk' : k < vs.length := by rw [hL.1]; exact hk
  obtain ⟨c, hc, hr⟩ := hL.get (k := k) (v := vs[k]) (by simp [hk'])
  simp [hk] at hc; subst hc
  exact scalar_oneCell hr (hs _ (List.getElem_mem hk'))

theorem items_sound (s : St cx base w.heap μ h) {x : T} {c : Value} {es : List T} (hx : RelV w.heap μ x c) (hh : h.items x = some es) : ∃ sz, Items P w μ c es sz := by
  unfold H.items at hh
  cases x <;> simp at hh
  · -- a tree
    rename_i es' full
    subst hh
    cases es' with
    | nil =>
      obtain ⟨ad, rfl⟩ := hx.inv_tree0
      refine ⟨0, by simp, by simp [flat], ad, 0, [], rfl, Nat.le_refl _, RelL.nil, by simp, ?_⟩
      cases ad with
      | none => exact .inl ⟨rfl, rfl⟩
      | some y => exact .inr ⟨y, rfl, by simp⟩
    | cons x0 es =>
      obtain ⟨blk, off, cap, sz, arr, t', fz, rfl, hn, hh', hl', hf, huu, hs, hc0, hr⟩ := hx.inv_tree
      have hc : ∀ v ∈ flat (x0 :: es), v.scalar = true := fun v hv => (hc0 v hv).1
      have r : RowAt w.heap μ blk off (flat (x0 :: es)) := ⟨⟨arr, t', fz, hh', hs, hr⟩, hc⟩
      have hL : RelL w.heap μ (flat (x0 :: es)) ((arr.toList.drop off).take (flat (x0 :: es)).length) := by
        refine ⟨by simp; omega, fun k v hv => ?_⟩
        have hk : k < (flat (x0 :: es)).length := by
          rcases Nat.lt_or_ge k (flat (x0 :: es)).length with y | y
          · exact y
          · rw [List.getElem?_eq_none y] at hv; simp at hv
        have := hr k v hv
        have hlt : off + k < arr.size := by omega
        simpa [List.getD, List.getElem?_take, hk, Array.getD_eq_getD_getElem?, hlt] using this
      refine ⟨sz, huu, hc, some ⟨blk, off, none⟩, cap, _, rfl, hl', hL, hL.oneCell hc, .inr ⟨_, rfl, fun j u hj => ?_⟩⟩
      rw [add_none]
      rw [List.getElem?_take] at hj
      split at hj
      · rw [List.getElem?_drop] at hj
        simp only [World.cell?, hh']
        simpa using hj
      · simp at hj
  · subst hh
    obtain ⟨ad, cap, rfl⟩ := hx.inv_ewild
    refine ⟨0, by simp, by simp [flat], ad, cap, [], rfl, Nat.zero_le _, RelL.nil, by simp, ?_⟩
    cases ad with
    | none => exact .inl ⟨rfl, rfl⟩
    | some y => exact .inr ⟨y, rfl, by simp⟩
  · rename_i b ep o' l full
    replace hh := bnd_eq_some.1 hh; obtain ⟨bx, hbx, hh⟩ := hh
    obtain ⟨sz, ep', ver, ex, it, elems⟩ := bx
    have hh : chk (Nat.beq ep' ep) (@Bool.rec (fun _ => Option (List T)) (bnd (dropN o' elems) fun r => takeN l r) none it) = some es := hh
    replace hh := chk_eq_some.1 hh; obtain ⟨hep, hh⟩ := hh
    cases it with
    | true => simp at hh
    | false =>
      have hh : (bnd (dropN o' elems) fun r => takeN l r) = some es := hh
      replace hh := bnd_eq_some.1 hh; obtain ⟨r, hr, hh⟩ := hh
      rw [dropN_eq] at hr
      split at hr
      · rename_i hle
        simp at hr; subst hr
        rw [takeN_eq] at hh
        split at hh
        · rename_i hle2
          simp at hh hle2; subst hh
          obtain ⟨L, ad, cp, rfl, hb, hel, hcp, hcur⟩ := hx.inv_arr
          obtain ⟨c, g1, g2⟩ := s.row_of hb hbx rfl
          simp only [] at g1 g2
          have hep := Nat.eq_of_beq_eq_true hep
          obtain ⟨c1, c2, c3⟩ := hcur (by omega)
          obtain ⟨arr, t', hrow, hsize, hL⟩ := c.row
          have hu := c.size
          simp only [] at hu hL
          have hcut := flat_cut hu o' l
          have hlen : ((elems.drop o').take l).length = l := by simp; omega
          have hfl := flat_length hu
          have hL' : RelL w.heap μ (flat ((elems.drop o').take l)) (((arr.toList.take (flat elems).length).drop (o' * L.sz)).take (l * L.sz)) := by
            rw [hcut]; exact (hL.drop _).take _
          have hsc : ∀ v ∈ flat ((elems.drop o').take l), v.scalar = true := by
            intro v hv; rw [hcut] at hv; exact c.scalar v (List.mem_of_mem_drop (List.mem_of_mem_take hv))
          refine ⟨L.sz, fun v hv => hu v (List.mem_of_mem_drop (List.mem_of_mem_take hv)), hsc, ad, cp, _, by rw [hlen], by rw [hlen]; exact hcp, hL', hL'.oneCell hsc, ?_⟩
          by_cases h0 : cp = 0
          · have hl0 : l = 0 := by omega
            subst hl0
            cases ad with
            | none => exact .inl ⟨rfl, by simp⟩
            | some y => exact .inr ⟨y, rfl, by simp⟩
          · refine .inr ⟨_, c3 h0, fun j u hj => ?_⟩
            rw [add_none]
            rw [List.getElem?_take] at hj
            split at hj
            · rw [List.getElem?_drop, List.getElem?_take] at hj
              split at hj
              · simp only [World.cell?, hrow]
                simpa using hj
              · simp at hj
            · simp at hj
        · simp at hh
      · simp at hr

/-- The same as the model's 'append' reads it. -/
theorem Items.src {c : Value} {es : List T} {sz : Nat} (it : Items P w μ c es sz) {tx e' : TypeId} (hk : P.underlying tx = some (.slice e')) : ∃ news, Src P sz tx c es.length news w ∧ RelL w.heap μ (flat es) news := by
  obtain ⟨ad, cap, news, rfl, hle, hL, h1, hcase⟩ := it.form
  refine ⟨news, ?_, hL⟩
  have hl : news.length = es.length * sz := by rw [← hL.1, flat_length it.uni]
  rcases hcase with ⟨rfl, rfl⟩ | ⟨x, rfl, hx⟩
  · have : news = [] := List.eq_nil_of_length_eq_zero (by simpa using hl)
    subst this
    exact Src.ofNil w hk cap
  · exact Src.ofSlice w hk x es.length cap news hl hx h1

theorem Items.first {c : Value} {es : List T} {sz : Nat} (it : Items P w μ c es sz) : ∃ news, (Builtin.firstCells sz es.length c).run P w.drew = .ok news.toArray w.drew ∧ RelL w.heap μ (flat es) news := by
  obtain ⟨ad, cap, news, rfl, hle, hL, h1, hcase⟩ := it.form
  refine ⟨news, ?_, hL⟩
  have hl : news.length = es.length * sz := by rw [← hL.1, flat_length it.uni]
  rcases hcase with ⟨rfl, rfl⟩ | ⟨x, rfl, hx⟩
  · have : news = [] := List.eq_nil_of_length_eq_zero (by simpa using hl)
    subst this
    exact run_firstCells_none w.drew sz 0 0 cap
  · exact run_firstCells_some w.drew sz es.length x es.length cap news hl (by simpa using hx)
end
end Go.TI

/- 'append': the operation. -/
set_option linter.unusedVariables false
namespace Go.TI
section
variable {P : Program} {cx : Ctx} {base : Nat} {w : World} {μ : Mu} {h h' : H} {mask : Nat} {e : Env} {a : Act} {o : Oper} {hp hp' : Array Obj}

/-- What is appended: elements of one size, as the model reads them. -/
structure News (P : Program) (w : World) (μ : Mu) (sz : Nat) (tx : TypeId) (x : Value) (xs : List T) (news : List Value) : Prop where
  src : Src P sz tx x xs.length news w
  rel : RelL w.heap μ (flat xs) news
  uni : ∀ v ∈ xs, v.cells.length = sz
  scalar : ∀ v ∈ flat xs, v.scalar = true

/-- What lies there: elements of one size, as the model reads them behind a draw. -/
structure Olds (P : Program) (w : World) (μ : Mu) (sz : Nat) (c : Value) (es : List T) (olds : List Value) : Prop where
  first : (Builtin.firstCells sz es.length c).run P w.drew = .ok olds.toArray w.drew
  rel : RelL w.heap μ (flat es) olds
  uni : ∀ v ∈ es, v.cells.length = sz
  scalar : ∀ v ∈ flat es, v.scalar = true

theorem zeroCells_size (zs : Array Value) (n : Nat) : (Builtin.zeroCells zs n).size = n * zs.size := by simp [Builtin.zeroCells]

theorem flat_mem_append {xs ys : List T} {Q : T → Prop} (h1 : ∀ v ∈ flat xs, Q v) (h2 : ∀ v ∈ flat ys, Q v) : ∀ v ∈ flat (xs ++ ys), Q v := by
  intro v hv
  rw [flat_append] at hv
  rcases List.mem_append.1 hv with k | k
  · exact h1 v k
  · exact h2 v k

theorem grown_size {olds news : List Value} {zs : Array Value} {cap n sz : Nat} (h1 : olds.length + news.length = n * sz) (h2 : zs.size = sz) (h3 : n ≤ cap) :
    ((olds ++ news).toArray ++ Builtin.zeroCells zs (cap - n)).size = cap * sz := by
  simp only [Array.size_append, List.size_toArray, List.length_append, zeroCells_size, h1, h2]
  rw [← Nat.add_mul]
  congr 1; omega

/-- The growing arm, as the model runs it. -/
theorem run_grow (tys : TysOk P cx) {t tx ty' el : TypeId} {te : Ty} (hd : P.underlying t = some (.slice el)) (hte : cx.ty el = some te) {ad : Option Addr} {cap : Nat} {es xs : List T} {olds news : List Value} {x : Value}
    (ol : Olds P w μ te.size (.slice ad es.length cap) es olds) (nw : News P w μ te.size tx x xs news) (hg : cap < es.length + xs.length) (hb : 1 ≤ te.bytes) (hsm : (es.length + xs.length) * te.bytes ≤ 70368744177664) :
    ∃ (z : Value) (newCap : Nat), es.length + xs.length ≤ newCap ∧ z.cells.size = te.size ∧ (Builtin.append_ #[t, tx] ty' #[.slice ad es.length cap, x]).run P w =
      .ok (.slice (some ⟨w.heap.size, 0, none⟩) (es.length + xs.length) newCap) { w with drawn := w.drawn + 1, heap := w.heap.push (.cells ((olds ++ news).toArray ++ Builtin.zeroCells z.cells (newCap - (es.length + xs.length))) el) } := by
  obtain ⟨i, d, z, g1, g2, g3, g4, g5, g6, g7, g8, g9, _⟩ := (tys.ty _ _ hte).unfold
  have hzs : z.cells.size = te.size := by
    have := (RelL.ofCells (hp := #[]) (μ := ⟨fun _ => none, fun _ => False⟩) g4).1.1
    simp at this; omega
  have hneed : es.length + xs.length ≤ 70368744177664 := Nat.le_trans (Nat.le_mul_of_pos_right _ (by omega)) hsm
  have h1 := ol.first
  have h2 := nw.src
  rw [← g8] at h1 h2
  have := run_append_grow_src w t tx ty' el i z hd g1 g3 ad es.length cap olds h1 x xs.length news h2 hg (by omega) (by rw [g9]; exact growslice_fits hg (by omega))
  exact ⟨z, _, grownCap_ge w _ _ _, hzs, this⟩

theorem appendNew_sound (tys : TysOk P cx) (s : St cx base w.heap μ h) {t tx ty' el : TypeId} {te : Ty} (hd : P.underlying t = some (.slice el)) (hte : cx.ty el = some te) {ad : Option Addr} {cap : Nat} {es xs : List T} {olds news : List Value} {x : Value}
    (ol : Olds P w μ te.size (.slice ad es.length cap) es olds) (nw : News P w μ te.size tx x xs news) (hg : cap < es.length + xs.length) {v : T} (hh : h.appendNew te.size te.bytes es xs = some (v, h')) :
    ∃ c w' μ', (Builtin.append_ #[t, tx] ty' #[.slice ad es.length cap, x]).run P w = .ok c w' ∧ RelV w'.heap μ' v c ∧ St cx base w'.heap μ' h' ∧ ExtW w μ w' μ' ∧ Dom μ μ' h.size h'.size := by
  unfold H.appendNew at hh
  simp only [appN_eq, bnd_some, normNat_eq, lenN_eq] at hh
  replace hh := chk_eq_some.1 hh; obtain ⟨hb, hh⟩ := hh
  replace hh := chk_eq_some.1 hh; obtain ⟨hsm, hh⟩ := hh
  replace hh := chk_eq_some.1 hh; obtain ⟨_, hh⟩ := hh
  replace hh := chk_eq_some.1 hh; obtain ⟨_, hh⟩ := hh
  rw [H.new_cons] at hh
  simp only [Option.some.injEq, Prod.mk.injEq] at hh
  obtain ⟨rfl, rfl⟩ := hh
  have hb := Nat.le_of_ble_eq_true hb
  have hsm : (es ++ xs).length * te.bytes ≤ 70368744177664 := Nat.le_of_ble_eq_true hsm
  rw [List.length_append] at hsm
  obtain ⟨z, newCap, hcap, hz, hrun⟩ := run_grow tys hd hte (ty' := ty') ol nw hg hb hsm
  have hu : ∀ v ∈ es ++ xs, v.cells.length = te.size := by
    intro v hv
    rcases List.mem_append.1 hv with k | k
    · exact ol.uni v k
    · exact nw.uni v k
  have hlen : olds.length + news.length = (es.length + xs.length) * te.size := by
    rw [← ol.rel.1, ← nw.rel.1, flat_length ol.uni, flat_length nw.uni, Nat.add_mul]
  have hL : RelL w.heap μ (flat (es ++ xs)) (((olds ++ news).toArray ++ Builtin.zeroCells z.cells (newCap - (es.length + xs.length))).toList.take (flat (es ++ xs)).length) := by
    rw [flat_length hu, List.length_append, Array.toList_append, List.toList_toArray, List.take_append_of_le_length (by simp; omega), List.take_of_length_le (by simp; omega), flat_append]
    exact ol.rel.append nw.rel
  have s' : St cx base ({ w with drawn := w.drawn + 1 } : World).heap μ h := s
  obtain ⟨μ', k1, k2, k3, k4⟩ := new_box s' el (cap := newCap) (sz := te.size) (ex := false) (es := es ++ xs) (grown_size hlen hz hcap) (by simpa using hcap) (by simp) hu (flat_mem_append ol.scalar nw.scalar) hL
  rw [List.length_append]
  exact ⟨_, _, μ', hrun, .arr _ 0 0 _ false _ _ newCap k4 (Nat.le_refl _) hcap (fun _ => ⟨by simp, by simp, by simp⟩), k1, ⟨k2.ext, rfl, rfl, rfl⟩, k3⟩

/-- The arm with room, as the model runs it. -/
theorem run_room (tys : TysOk P cx) {t tx ty' el : TypeId} {te : Ty} (hd : P.underlying t = some (.slice el)) (hte : cx.ty el = some te) {blk l cp n : Nat} {news : List Value} {x : Value}
    (hs : Src P te.size tx x n news w) (hroom : l + n ≤ cp) {arr : Array Value} {t' : TypeId} (hrow : w.heap[blk]? = some (.cells arr t' (0, 0))) (hsz : l * te.size + news.length ≤ arr.size) :
    (Builtin.append_ #[t, tx] ty' #[.slice (some ⟨blk, 0, none⟩) l cp, x]).run P w = .ok (.slice (some ⟨blk, 0, none⟩) (l + n) cp) (w.setRow blk (arr.toList.take (l * te.size) ++ news ++ arr.toList.drop (l * te.size + news.length)).toArray) := by
  obtain ⟨i, d, z, g1, g2, g3, g4, g5, g6, g7, g8, g9, _⟩ := (tys.ty _ _ hte).unfold
  have hst := run_storeCells_at (P := P) blk (l * te.size) t' news 0 arr w hrow (by omega) hs.one
  simp only [Nat.add_zero] at hst
  have hadd : (⟨blk, 0, none⟩ : Addr).add (l * te.size) = ⟨blk, l * te.size, none⟩ := by rw [add_none]; simp
  rcases hs.kind with ⟨e', hk⟩ | hk <;> simp [Builtin.append_, run_underlying hd, run_underlying hk, sizeOf, typeInfo, g1, g8, hs.len, hroom, hs.cells, hadd, hst]

/-- Nothing is appended. -/
theorem run_none (tys : TysOk P cx) {t tx ty' el : TypeId} {te : Ty} (hd : P.underlying t = some (.slice el)) (hte : cx.ty el = some te) {ad : Option Addr} {l cp : Nat} {x : Value} (hs : Src P te.size tx x 0 [] w) (hle : l ≤ cp) :
    (Builtin.append_ #[t, tx] ty' #[.slice ad l cp, x]).run P w = .ok (.slice ad l cp) w := by
  obtain ⟨i, d, z, g1, g2, g3, g4, g5, g6, g7, g8, g9, _⟩ := (tys.ty _ _ hte).unfold
  rcases hs.kind with ⟨e', hk⟩ | hk <;> cases ad <;> simp [Builtin.append_, run_underlying hd, run_underlying hk, sizeOf, typeInfo, g1, g8, hs.len, hle, hs.cells, storeCells]

theorem appendOn_sound (tys : TysOk P cx) (s : St cx base w.heap μ h) {t tx ty' el : TypeId} {te : Ty} (hd : P.underlying t = some (.slice el)) (hte : cx.ty el = some te) {b ep l : Nat} {xs : List T} {news : List Value} {c x : Value}
    (hx : RelV w.heap μ (.arr b ep 0 l false) c) (nw : News P w μ te.size tx x xs news) (hne : xs ≠ []) {v : T} (hh : h.appendOn te.size te.bytes b ep l xs = some (v, h')) :
    ∃ c' w' μ', (Builtin.append_ #[t, tx] ty' #[c, x]).run P w = .ok c' w' ∧ RelV w'.heap μ' v c' ∧ St cx base w'.heap μ' h' ∧ ExtW w μ w' μ' ∧ Dom μ μ' h.size h'.size := by
  unfold H.appendOn at hh
  replace hh := bnd_eq_some.1 hh; obtain ⟨bx, hbx, hh⟩ := hh
  obtain ⟨sz, ep', ver, ex, it, elems⟩ := bx
  have hh : (bnd (takeN l elems) fun es0 => bnd (appN es0 xs) fun es => bnd (normNat (lenN es)) fun n => chk (Nat.ble 1 te.bytes) <| chk (Nat.beq ep' ep) (chk (Nat.beq sz te.size) (chk (Nat.ble (Nat.mul n te.bytes) 70368744177664) (chk (fits te.size xs) (@Bool.rec (fun _ => Option (T × H))
      (bnd (normNat (Nat.succ ep')) fun ep1 => bnd (normNat (Nat.succ ver)) fun ver1 => bnd (h.put b ⟨sz, ep1, ver1, false, false, es⟩) fun h' => some (.arr b ep1 0 n false, h')) none it))))) = some (v, h') := hh
  replace hh := bnd_eq_some.1 hh; obtain ⟨es0, he0, hh⟩ := hh
  simp only [appN_eq, bnd_some, normNat_eq, lenN_eq] at hh
  replace hh := chk_eq_some.1 hh; obtain ⟨hb1, hh⟩ := hh
  replace hh := chk_eq_some.1 hh; obtain ⟨hep, hh⟩ := hh
  replace hh := chk_eq_some.1 hh; obtain ⟨hsz, hh⟩ := hh
  replace hh := chk_eq_some.1 hh; obtain ⟨hsm, hh⟩ := hh
  replace hh := chk_eq_some.1 hh; obtain ⟨_, hh⟩ := hh
  cases it with
  | true => simp at hh
  | false =>
    have hh : (bnd (h.put b ⟨sz, ep' + 1, ver + 1, false, false, es0 ++ xs⟩) fun h' => some (T.arr b (ep' + 1) 0 (es0 ++ xs).length false, h')) = some (v, h') := hh
    replace hh := bnd_eq_some.1 hh; obtain ⟨h2, hput, hh⟩ := hh
    simp only [Option.some.injEq, Prod.mk.injEq] at hh
    obtain ⟨rfl, rfl⟩ := hh
    have hb1 := Nat.le_of_ble_eq_true hb1
    have hep := Nat.eq_of_beq_eq_true hep
    have hsz := Nat.eq_of_beq_eq_true hsz
    have hsm : (es0 ++ xs).length * te.bytes ≤ 70368744177664 := Nat.le_of_ble_eq_true hsm
    rw [List.length_append] at hsm
    rw [takeN_eq] at he0
    split at he0
    · rename_i hle
      simp at he0; subst he0
      obtain ⟨L, ad, cp, rfl, hb, hel, hcp, hcur⟩ := hx.inv_arr
      obtain ⟨c, g1, g2⟩ := s.row_of hb hbx rfl
      simp only [] at g1 g2
      obtain ⟨_, c2, c3⟩ := hcur (by omega)
      have hcap : cp = L.cap := by have := c2 rfl; omega
      obtain ⟨arr, t', hrow, hsize, hL⟩ := c.row
      have hu := c.size
      simp only [] at hu hL
      have hLsz : L.sz = te.size := by omega
      have hlt : (elems.take l).length = l := by simp; omega
      have hu0 : ∀ v ∈ elems.take l, v.cells.length = te.size := fun v hv => by rw [← hLsz]; exact hu v (List.mem_of_mem_take hv)
      have hs0 : ∀ v ∈ flat (elems.take l), v.scalar = true := by
        intro v hv; rw [← flat_take hu] at hv; exact c.scalar v (List.mem_of_mem_take hv)
      have hua : ∀ v ∈ elems.take l ++ xs, v.cells.length = L.sz := by
        intro v hv
        rw [hLsz]
        rcases List.mem_append.1 hv with k | k
        · exact hu0 v k
        · exact nw.uni v k
      have hsa := flat_mem_append hs0 nw.scalar
      have hfl := flat_length hu
      have hnl : news.length = xs.length * te.size := by rw [← nw.rel.1, flat_length nw.uni]
      have hL0 : RelL w.heap μ (flat (elems.take l)) (arr.toList.take (l * L.sz)) := by
        have := hL.take (l * L.sz)
        rw [flat_take hu, List.take_take, Nat.min_eq_left (by rw [hfl]; exact Nat.mul_le_mul_right _ hle)] at this
        exact this
      have hpos : 0 < xs.length := List.length_pos_iff.2 hne
      by_cases hroom : l + xs.length ≤ cp
      · -- there is room
        have hcp0 : cp ≠ 0 := by omega
        have had := c3 hcp0
        simp only [Nat.zero_mul] at had
        subst had
        have hbound : l * te.size + news.length ≤ arr.size := by
          rw [hsize, hnl, hLsz, ← Nat.add_mul]
          exact Nat.mul_le_mul_right _ (by omega)
        have hrun := run_room (ty' := ty') tys hd hte nw.src hroom hrow hbound
        have hfla : (flat (elems.take l ++ xs)).length = l * te.size + news.length := by
          rw [flat_length hua, List.length_append, hlt, hnl, hLsz, Nat.add_mul]
        have hLn : RelL w.heap μ (flat (elems.take l ++ xs)) ((arr.toList.take (l * te.size) ++ news ++ arr.toList.drop (l * te.size + news.length)).toArray.toList.take (flat (elems.take l ++ xs)).length) := by
          have ht : (arr.toList.take (l * te.size) ++ news).take (l * te.size + news.length) = arr.toList.take (l * te.size) ++ news := List.take_of_length_le (by simp; omega)
          rw [hfla, List.toList_toArray, List.take_append_of_le_length (by simp; omega), ht, flat_append]
          rw [hLsz] at hL0
          exact hL0.append nw.rel
        obtain ⟨μ', k1, k2, k3, k4⟩ := write_row s hb hbx rfl hrow (ep' := ep' + 1) (.inr (by omega)) hput (arr' := (arr.toList.take (l * te.size) ++ news ++ arr.toList.drop (l * te.size + news.length)).toArray)
          (by simp only [List.size_toArray, List.length_append, List.length_take, List.length_drop, Array.length_toList]; rw [← hsize]; omega) (by simp [hlt]; omega) (by simp) hua hsa hLn
        refine ⟨_, _, μ', hrun, ?_, k1, k2, k3⟩
        have hln : (elems.take l ++ xs).length = l + xs.length := by rw [List.length_append, hlt]
        rw [hln]
        exact .arr _ _ 0 _ false _ _ cp k4 (Nat.le_refl _) hroom (fun _ => ⟨by simp, by simp [hcap], by simp⟩)
      · -- there is none
        have ol : ∃ olds, Olds P w μ te.size (.slice ad l cp) (elems.take l) olds := by
          refine ⟨arr.toList.take (l * L.sz), ?_, hL0, hu0, hs0⟩
          rw [hlt]
          have hll : (arr.toList.take (l * L.sz)).length = l * te.size := by rw [← hL0.1, flat_length hu0, hlt]
          by_cases h0 : cp = 0
          · have hl0 : l = 0 := by omega
            subst hl0
            simp only [Nat.zero_mul, List.take_zero]
            cases ad with
            | none => exact run_firstCells_none w.drew te.size 0 0 cp
            | some y => exact run_firstCells_some w.drew te.size 0 y 0 cp [] (by simp) (by simp)
          · rw [c3 h0]
            refine run_firstCells_some w.drew te.size l _ l cp _ hll (fun j u hj => ?_)
            rw [add_none]
            rw [List.getElem?_take] at hj
            split at hj
            · show World.cell? w _ = _
              simp only [World.cell?, hrow]
              simpa using hj
            · simp at hj
        obtain ⟨olds, ol⟩ := ol
        have hsm' : ((elems.take l).length + xs.length) * te.bytes ≤ 70368744177664 := by rw [← hlt] at *; exact hsm
        have ol' : Olds P w μ te.size (.slice ad (elems.take l).length cp) (elems.take l) olds := by rw [hlt]; exact ol
        obtain ⟨z, newCap, hncap, hz, hrun⟩ := run_grow tys hd hte (ty' := ty') ol' nw (by rw [hlt]; omega) hb1 hsm'
        rw [hlt] at hrun hncap
        have hlen : olds.length + news.length = (l + xs.length) * te.size := by
          rw [← ol.rel.1, ← nw.rel.1, flat_length ol.uni, flat_length nw.uni, hlt, Nat.add_mul]
        have hfla : (flat (elems.take l ++ xs)).length = (l + xs.length) * te.size := by
          rw [flat_length hua, List.length_append, hlt, hLsz]
        have hLn : RelL w.heap μ (flat (elems.take l ++ xs)) (((olds ++ news).toArray ++ Builtin.zeroCells z.cells (newCap - (l + xs.length))).toList.take (flat (elems.take l ++ xs)).length) := by
          have ht : (olds ++ news).take ((l + xs.length) * te.size) = olds ++ news := List.take_of_length_le (by simp; omega)
          rw [hfla, Array.toList_append, List.toList_toArray, List.take_append_of_le_length (by simp; omega), ht, flat_append]
          exact ol.rel.append nw.rel
        have hln : (elems.take l ++ xs).length = l + xs.length := by rw [List.length_append, hlt]
        obtain ⟨k1, k2, k3⟩ := s.change (L' := ⟨ep' + 1, w.heap.size, newCap, L.sz⟩) (hp' := w.heap.push (.cells ((olds ++ news).toArray ++ Builtin.zeroCells z.cells (newCap - (l + xs.length))) el)) hb hput (by simp)
          (by intro i hi _; rw [Array.getElem?_push]; simp; omega) (.inr ⟨by simp; omega, .inr (Nat.le_refl _)⟩) (by
          intro hext
          refine ⟨rfl, by simp; omega, fun _ => ⟨⟨_, el, by simp, ?_, hLn.ext hext⟩, by simp [hlt]; omega, by simp, hua, hsa⟩, fun k => by simp at k⟩
          rw [grown_size hlen hz hncap, hLsz])
        refine ⟨_, _, _, hrun, ?_, k1, ⟨k2, rfl, rfl, rfl⟩, k3⟩
        rw [hln]
        exact .arr _ _ 0 _ false _ _ newCap (setMu_same _ _ _) (Nat.le_refl _) hncap (fun _ => ⟨by simp, by simp, by simp⟩)
    · simp at he0
end
end Go.TI

/- The built-in functions; conversions that make memory; iterators. -/
set_option linter.unusedVariables false
namespace Go.TI
section
variable {P : Program} {cx : Ctx} {base : Nat} {w : World} {μ : Mu} {h h' : H} {mask : Nat} {e : Env} {a : Act} {o : Oper} {hp hp' : Array Obj} {p : T}

/-- As 'Done', of a computation that gives a value. -/
def DoneV (cx : Ctx) (base : Nat) (w : World) (μ : Mu) (n : Nat) (r : Result Value) (v : T) (h' : H) : Prop :=
  ∃ c w' μ', r = .ok c w' ∧ RelV w'.heap μ' v c ∧ St cx base w'.heap μ' h' ∧ ExtW w μ w' μ' ∧ Dom μ μ' n h'.size

theorem DoneV.pure {r : Result Value} {v : T} {c : Value} (s : St cx base w.heap μ h) (hr : r = .ok c w) (hv : RelV w.heap μ v c) : DoneV cx base w μ h.size r v h :=
  ⟨c, w, μ, hr, hv, s, ExtW.refl _ _, Dom.refl _ _⟩

theorem elemTy_sound (tys : TysOk P cx) {t : TypeId} {te : Ty} (hh : elemTy cx t = some te) : ∃ el, P.underlying t = some (.slice el) ∧ cx.ty el = some te := by
  obtain ⟨ty, hty, hh⟩ := bnd_eq_some.1 hh
  obtain ⟨d, hd, hu⟩ := und_of (tys.ty _ _ hty)
  cases hut : ty.u <;> rw [hut] at hh hu <;> simp at hh
  have := uOf_slice hu; subst this
  exact ⟨_, hd, hh⟩

theorem mapOpt_bytes (bs : List Nat) : mapOpt (fun c => some (T.int .u8 (.ofNat c))) bs = some (bs.map fun c => T.int .u8 (.ofNat c)) := by
  induction bs with
  | nil => rfl
  | cons b bs ih => rw [mapOpt_cons, ih]; rfl

theorem flat_ints (bs : List Nat) : flat (bs.map fun c => T.int .u8 (.ofNat c)) = bs.map fun c => T.int .u8 (.ofNat c) := by
  induction bs with
  | nil => rfl
  | cons b bs ih => rw [List.map_cons, flat_cons, ih]; rfl

theorem news_sound (tys : TysOk P cx) (s : St cx base w.heap μ h) {tx : TypeId} {x : T} {c : Value} {xs : List T} {sz : Nat} (hx : RelV w.heap μ x c) (hh : srcItems cx h tx x = some xs) (hf : fits sz xs = true) :
    ∃ news, News P w μ sz tx c xs news := by
  obtain ⟨ty, hty, hh⟩ := bnd_eq_some.1 hh
  obtain ⟨d, hd, hu⟩ := und_of (tys.ty _ _ hty)
  cases hut : ty.u <;> rw [hut] at hh hu <;> simp at hh
  · have := uOf_str hu; subst this
    have hform : ∃ bs, x = .str bs := by cases x <;> first | exact ⟨_, rfl⟩ | (simp at hh)
    obtain ⟨bs, rfl⟩ := hform
    have hh : mapOpt (fun c => some (T.int .u8 (.ofNat c))) bs = some xs := hh
    rw [mapOpt_bytes] at hh
    simp only [Option.some.injEq] at hh; subst hh
    obtain ⟨rfl, hb⟩ := hx.inv_str
    cases bs with
    | nil =>
      have hz : bytesOf [] = ByteArray.empty := rfl
      refine ⟨[], ⟨⟨.inr hd, fun w' => by simp [Builtin.lenOf]; rfl, ?_, ?_, by simp, by simp⟩, RelL.nil, by simp, by simp [flat]⟩⟩
      · simp [Builtin.firstCells, hz]
      · simp [Builtin.firstCells, hz]
    | cons b bs =>
      have hsz : sz = 1 := by
        have hf : Nat.beq 1 sz = true := hf
        exact (Nat.eq_of_beq_eq_true hf).symm
      subst hsz
      have hsrc := Src.ofString w hd (bytesOf (b :: bs))
      have hbl : (bytesOf (b :: bs)).size = ((b :: bs).map fun c => T.int .u8 (.ofNat c)).length := by rw [size_bytesOf]; simp
      rw [hbl] at hsrc
      refine ⟨_, hsrc, ?_, by intro v hv; simp only [List.mem_map] at hv; obtain ⟨_, _, rfl⟩ := hv; rfl, by rw [flat_ints]; intro v hv; simp only [List.mem_map] at hv; obtain ⟨_, _, rfl⟩ := hv; rfl⟩
      rw [flat_ints]
      refine ⟨by rw [byteCells_length, hbl], fun k v hv => ?_⟩
      rw [List.getElem?_map] at hv
      cases hk : (b :: bs)[k]? with
      | none => rw [hk] at hv; simp at hv
      | some q =>
        rw [hk] at hv; simp at hv; subst hv
        have hq : q < 256 := hb q (List.mem_of_getElem? hk)
        have : (byteCells (bytesOf (b :: bs)))[k]? = some (.int .u8 (q : Int)) := by
          simp only [byteCells, bytesOf, List.getElem?_map, List.toList_toArray, hk, Option.map_some, toNat_ofNat_lt hq]
        rw [List.getD, this]
        exact .int _ _
  · rename_i el
    have := uOf_slice hu; subst this
    obtain ⟨sz', it⟩ := items_sound (P := P) s hx hh
    have hu' := fits_eq hf it.uni
    have it' : Items P w μ c xs sz := ⟨hu', it.scalar, it.form⟩
    obtain ⟨news, hs, hL⟩ := it'.src hd
    exact ⟨news, hs, hL, hu', it.scalar⟩

theorem sliceForm (hsl : isSliceT p = true) {c : Value} (hp : RelV w.heap μ p c) : ∃ ad l cp, c = .slice ad l cp ∧ l ≤ cp := by
  cases hp <;> simp [isSliceT] at hsl
  · exact ⟨_, _, _, rfl, Nat.le_refl _⟩
  · exact ⟨_, _, _, rfl, by assumption⟩
  · exact ⟨_, _, _, rfl, Nat.zero_le _⟩
  · exact ⟨_, _, _, rfl, by assumption⟩

theorem bAppend_sound (tys : TysOk P cx) (s : St cx base w.heap μ h) {t tx ty' : TypeId} {q v : T} {c d : Value} (hp : RelV w.heap μ p c) (hq : RelV w.heap μ q d) (hh : bAppend cx h t tx p q = some (.val v h')) :
    DoneV cx base w μ h.size ((Builtin.append_ #[t, tx] ty' #[c, d]).run P w) v h' := by
  replace hh := bnd_eq_some.1 hh; obtain ⟨te, hte, hh⟩ := hh
  replace hh := bnd_eq_some.1 hh; obtain ⟨xs, hxs, hh⟩ := hh
  replace hh := chk_eq_some.1 hh; obtain ⟨hf, hh⟩ := hh
  rw [valNew_eq_some] at hh
  obtain ⟨el, hd, hel⟩ := elemTy_sound tys hte
  obtain ⟨news, nw⟩ := news_sound (P := P) tys s hq hxs hf
  cases xs with
  | nil =>
    have hh : chk (isSliceT p) (some (p, h)) = some (v, h') := hh
    obtain ⟨hsl, hh⟩ := chk_eq_some.1 hh
    simp only [Option.some.injEq, Prod.mk.injEq] at hh
    obtain ⟨rfl, rfl⟩ := hh
    have hn0 : news = [] := List.eq_nil_of_length_eq_zero (by have := nw.src.newsLen; simpa using this)
    subst hn0
    obtain ⟨ad, l, cp, rfl, hle⟩ := sliceForm hsl hp
    exact DoneV.pure s (run_none (ty' := ty') tys hd hel nw.src hle) hp
  | cons x1 xs =>
    have hne : x1 :: xs ≠ [] := by simp
    have hpos : 0 < (x1 :: xs).length := by simp
    have fromItems : ∀ {es : List T} {sz' : Nat}, Items P w μ c es sz' → (∀ ad l cp, c = .slice ad l cp → cp = l) → h.appendNew te.size te.bytes es (x1 :: xs) = some (v, h') → DoneV cx base w μ h.size ((Builtin.append_ #[t, tx] ty' #[c, d]).run P w) v h' := by
      intro es sz' it hcap hh'
      have hfo : fits te.size es = true := by
        unfold H.appendNew at hh'
        simp only [appN_eq, bnd_some, normNat_eq, lenN_eq] at hh'
        obtain ⟨_, hh'⟩ := chk_eq_some.1 hh'
        obtain ⟨_, hh'⟩ := chk_eq_some.1 hh'
        exact (chk_eq_some.1 hh').1
      have it' : Items P w μ c es te.size := ⟨fits_eq hfo it.uni, it.scalar, it.form⟩
      obtain ⟨ad, cap, nn, hform, hle, _⟩ := it'.form
      obtain ⟨olds, o1, o2⟩ := it'.first
      subst hform
      have := hcap _ _ _ rfl
      obtain ⟨c', w', μ', r1, r2, r3, r4, r5⟩ := appendNew_sound tys s hd hel (ty' := ty') (ad := ad) (cap := cap) ⟨o1, o2, it'.uni, it'.scalar⟩ nw (by omega) hh'
      exact ⟨c', w', μ', r1, r2, r3, r4, r5⟩
    have hform : (∃ es full, p = .tree es full) ∨ ∃ b ep o l full, p = .arr b ep o l full := by
      cases p <;> first | (exact .inl ⟨_, _, rfl⟩) | (exact .inr ⟨_, _, _, _, _, rfl⟩) | (simp [H.append] at hh)
    rcases hform with ⟨es, full, rfl⟩ | ⟨b, ep, o', l, full, rfl⟩
    · cases es with
      | nil =>
        have hh : h.appendNew te.size te.bytes [] (x1 :: xs) = some (v, h') := hh
        obtain ⟨ad, rfl⟩ := hp.inv_tree0
        obtain ⟨sz', it⟩ := items_sound (P := P) (es := []) s hp rfl
        exact fromItems it (by intro _ _ _ hc; simp at hc; omega) hh
      | cons x0 es =>
        have hh : chk full (h.appendNew te.size te.bytes (x0 :: es) (x1 :: xs)) = some (v, h') := hh
        obtain ⟨hfull, hh⟩ := chk_eq_some.1 hh
        obtain ⟨sz', it⟩ := items_sound (P := P) (es := x0 :: es) s hp rfl
        refine fromItems it ?_ hh
        intro ad l cp hc
        obtain ⟨_, _, _, _, _, _, _, hc', _, _, _, hfl, _⟩ := hp.inv_tree
        rw [hc'] at hc
        simp at hc
        have := hfl hfull
        omega
    · cases full with
      | true =>
        have hh : (bnd (h.items (.arr b ep o' l true)) fun es => h.appendNew te.size te.bytes es (x1 :: xs)) = some (v, h') := hh
        obtain ⟨es, hes, hh⟩ := bnd_eq_some.1 hh
        obtain ⟨sz', it⟩ := items_sound (P := P) s hp hes
        refine fromItems it ?_ hh
        intro ad l' cp hc
        obtain ⟨L, ad', cp', hc', hb, _, _, hcur⟩ := hp.inv_arr
        rw [hc'] at hc
        simp at hc
        have hep : ep = L.ep := by
          unfold H.items at hes
          obtain ⟨bx, hbx, hes⟩ := bnd_eq_some.1 hes
          obtain ⟨sz, ep', ver, ex, it, elems⟩ := bx
          have hes : chk (Nat.beq ep' ep) (@Bool.rec (fun _ => Option (List T)) (bnd (dropN o' elems) fun r => takeN l r) none it) = some es := hes
          have h1 := Nat.eq_of_beq_eq_true (chk_eq_some.1 hes).1
          have := (s.sz_of hb hbx).2
          simp only [] at this
          omega
        have := (hcur hep).1 rfl
        omega
      | false =>
        cases o' with
        | succ o' => exact absurd hh (by simp [H.append])
        | zero => exact appendOn_sound tys s hd hel (ty' := ty') hp nw hne hh

theorem bClear_sound (tys : TysOk P cx) (s : St cx base w.heap μ h) {t ty' : TypeId} {v : T} {c : Value} (hp : RelV w.heap μ p c) (hh : bClear cx h t p = some (.val v h')) :
    DoneV cx base w μ h.size ((Builtin.clear_ #[t] ty' #[c]).run P w) v h' := by
  replace hh := bnd_eq_some.1 hh; obtain ⟨te, hte, hh⟩ := hh
  obtain ⟨el, hd, hel⟩ := elemTy_sound tys hte
  have nothing : ∀ {ad : Option Addr} {cp : Nat}, c = .slice ad 0 cp → v = .undef → h' = h → DoneV cx base w μ h.size ((Builtin.clear_ #[t] ty' #[c]).run P w) v h' := by
    intro ad cp hc hv hh'
    subst hc hv hh'
    refine DoneV.pure s ?_ .undef
    cases ad <;> simp [Builtin.clear_, run_underlying hd]
  cases p <;> simp only [reduceCtorEq] at hh
  · rename_i es full
    cases es with
    | nil =>
      simp only [Option.some.injEq, Did.val.injEq] at hh
      obtain ⟨ad, rfl⟩ := hp.inv_tree0
      exact nothing rfl hh.1.symm hh.2.symm
    | cons x es => simp at hh
  · simp only [Option.some.injEq, Did.val.injEq] at hh
    obtain ⟨ad, l, cp, hc, hle⟩ := sliceForm (p := .ewild) rfl hp
    cases hp
    exact nothing rfl hh.1.symm hh.2.symm
  · rename_i b ep o' l full
    obtain ⟨L, ad, cp, rfl, hb, hepl, hlc, hcur⟩ := hp.inv_arr
    cases l with
    | zero =>
      have hh : some (Did.val .undef h) = some (.val v h') := hh
      simp only [Option.some.injEq, Did.val.injEq] at hh
      exact nothing rfl hh.1.symm hh.2.symm
    | succ l =>
      replace hh := bnd_eq_some.1 hh; obtain ⟨bx, hbx, hh⟩ := hh
      obtain ⟨sz, ep', ver, ex, it, elems⟩ := bx
      have hh : (chk (Nat.beq ep' ep) <| chk (Nat.beq sz te.size) (@Bool.rec (fun _ => Option Did)
          (bnd (splice elems o' (replicateN te.zeroT (l + 1))) fun es => bnd (normNat (Nat.succ ver)) fun ver' =>
            bnd (h.put b ⟨sz, ep', ver', ex, false, es⟩) fun h' => some (.val .undef h')) none it)) = some (.val v h') := hh
      replace hh := chk_eq_some.1 hh; obtain ⟨hep, hh⟩ := hh
      replace hh := chk_eq_some.1 hh; obtain ⟨hsz, hh⟩ := hh
      cases it with
      | true => simp at hh
      | false =>
        replace hh := bnd_eq_some.1 hh; obtain ⟨es, hes, hh⟩ := hh
        simp only [normNat_eq, bnd_some] at hh
        replace hh := bnd_eq_some.1 hh; obtain ⟨h2, hput, hh⟩ := hh
        simp only [Option.some.injEq, Did.val.injEq] at hh
        obtain ⟨rfl, rfl⟩ := hh
        have hep := Nat.eq_of_beq_eq_true hep
        have hsz := Nat.eq_of_beq_eq_true hsz
        obtain ⟨ck, g1, g2⟩ := s.row_of hb hbx rfl
        simp only [] at g1 g2
        obtain ⟨_, _, hadr⟩ := hcur (by omega)
        have hadr := hadr (by omega)
        subst hadr
        obtain ⟨arr, t', hrow, hsize, hL⟩ := ck.row
        have hu := ck.size
        simp only [] at hu hL
        obtain ⟨z, hz, hzV, hzL, hzs, hzl, hzc, hzg, hzz⟩ := (tys.ty _ _ hel).zero w
        rw [replicateN_eq] at hes
        obtain ⟨hle, hes⟩ := splice_eq_some hes
        rw [List.length_replicate] at hle hes
        have hfl := flat_length hu
        have hzL' : (flat (List.replicate (l + 1) te.zeroT)).length = (l + 1) * L.sz := by
          rw [flat_length (sz := L.sz) (by intro v hv; rw [List.eq_of_mem_replicate hv, hzc, hzl]; omega), List.length_replicate]
        have hflat : flat es = (flat elems).take (o' * L.sz) ++ flat (List.replicate (l + 1) te.zeroT) ++ (flat elems).drop (o' * L.sz + (l + 1) * L.sz) := by
          rw [hes, flat_append, flat_append, flat_take hu, ← Nat.add_mul, flat_drop hu]
        have hu' : ∀ v ∈ es, v.cells.length = L.sz := by
          intro v hv
          rw [hes] at hv
          rcases List.mem_append.1 hv with hv | hv
          · rcases List.mem_append.1 hv with hv | hv
            · exact hu v (List.mem_of_mem_take hv)
            · rw [List.eq_of_mem_replicate hv, hzc, hzl]; omega
          · exact hu v (List.mem_of_mem_drop hv)
        have hsc' : ∀ v ∈ flat es, v.scalar = true := by
          intro v hv
          rw [hflat] at hv
          rcases List.mem_append.1 hv with hv | hv
          · rcases List.mem_append.1 hv with hv | hv
            · exact ck.scalar v (List.mem_of_mem_take hv)
            · obtain ⟨y, hy, hv⟩ := List.mem_flatMap.1 hv
              rw [List.eq_of_mem_replicate hy, hzc] at hv
              exact hzs v hv
          · exact ck.scalar v (List.mem_of_mem_drop hv)
        have hlen : es.length = elems.length := by rw [hes]; simp; omega
        have hfl' : (flat es).length = (flat elems).length := by rw [flat_length hu', hfl, hlen]
        have hNle : (flat elems).length ≤ arr.size := by
          rw [hfl, hsize]; exact Nat.mul_le_mul_right _ ck.room
        have hbound : o' * L.sz + (l + 1) * L.sz ≤ (flat elems).length := by
          rw [hfl, ← Nat.add_mul]; exact Nat.mul_le_mul_right _ hle
        -- the model's zero cells
        have hzsz : z.cells.size = L.sz := by have := (hzL w.heap μ).1; simp only [Array.length_toList] at this; omega
        have hzcells : ∃ zc : List Value, (Builtin.zeroCells z.cells (l + 1)).toList = zc ∧ zc.length = (l + 1) * L.sz ∧ RelL w.heap μ (flat (List.replicate (l + 1) te.zeroT)) zc := by
          have hR : RelL w.heap μ (flat (List.replicate (l + 1) te.zeroT)) (Builtin.zeroCells z.cells (l + 1)).toList := by
            by_cases h0 : z.cells.size = 0
            · have e1 : flat (List.replicate (l + 1) te.zeroT) = [] := List.eq_nil_of_length_eq_zero (by rw [hzL', ← hzsz, h0]; simp)
              have e2 : (Builtin.zeroCells z.cells (l + 1)).toList = [] := List.eq_nil_of_length_eq_zero (by rw [Array.length_toList, zeroCells_size, h0]; simp)
              rw [e1, e2]; exact RelL.nil
            · rw [Builtin.zeroCells, range_mod (l + 1) (by omega), flat_replicate, hzc]
              exact (hzL _ _).replicate (l + 1)
          exact ⟨_, rfl, by rw [Array.length_toList, zeroCells_size, hzsz], hR⟩
        obtain ⟨zc, hzc1, hzc2, hzc3⟩ := hzcells
        have hone : ∀ u ∈ zc, u.oneCell' = true := hzc3.oneCell (by
          intro v hv
          obtain ⟨y, hy, hv⟩ := List.mem_flatMap.1 hv
          rw [List.eq_of_mem_replicate hy, hzc] at hv
          exact hzs v hv)
        have hLa : RelL w.heap μ (flat es) ((arr.toList.take (o' * L.sz) ++ zc ++ arr.toList.drop (o' * L.sz + zc.length)).toArray.toList.take (flat es).length) := by
          rw [hfl', hflat]
          rw [List.toList_toArray, take_splice _ _ (by omega) (by simpa using hNle)]
          rw [hzc2]
          exact ((hL.take _).append hzc3).append (hL.drop _)
        obtain ⟨μ', k1, k2, k3, k4⟩ := write_row s hb hbx rfl hrow (.inl g1) hput (arr' := (arr.toList.take (o' * L.sz) ++ zc ++ arr.toList.drop (o' * L.sz + zc.length)).toArray)
          (by simp only [List.size_toArray, List.length_append, List.length_take, List.length_drop, Array.length_toList]; rw [← hsize]; omega) (by rw [hlen]; exact ck.room) (by intro k; have := ck.exact_ k; simp only at this; rw [hlen]; exact this) hu' hsc' hLa
        refine ⟨.tuple #[], _, μ', ?_, .undef, k1, k2, k3⟩
        have hrun := run_storeCells_at (P := P) L.blk (o' * L.sz) t' zc 0 arr w hrow (by simp only [Nat.add_zero]; omega) hone
        simp only [Nat.add_zero] at hrun
        simp [Builtin.clear_, run_underlying hd, hz, hzc1, hrun]
end
end Go.TI

/- Every operation. -/
set_option linter.unusedVariables false
namespace Go.TI
section
variable {P : Program} {cx : Ctx} {base : Nat} {w : World} {μ : Mu} {h h' : H} {mask : Nat} {e : Env} {a : Act} {o : Oper} {hp hp' : Array Obj} {p : T}

/-- New blocks that are no box's. -/
theorem St.grow (s : St cx base hp μ h) (hsz : hp.size ≤ hp'.size) (hold : ∀ i, i < hp.size → hp'[i]? = hp[i]?) : St cx base hp' μ h ∧ Ext hp μ hp' μ := by
  have hext : Ext hp μ hp' μ := ⟨hsz, fun i hi hn => ⟨hold i hi, hn⟩, fun b L hb => ⟨L, hb, .inl rfl⟩, rfl, fun i hi _ => hold i hi⟩
  refine ⟨⟨s.wf, by have := s.fit; omega, fun b L hb => ?_, s.inj, s.low, s.apart, fun i hr => Nat.lt_of_lt_of_le (s.resLt i hr) hsz, fun g cs hg => (s.glob g cs hg).ext hext⟩, hext⟩
  obtain ⟨x, h1, h2⟩ := s.box b L hb
  exact ⟨x, h1, h2.ext hext (hold _ (s.lt hb))⟩

theorem bytesT_sound (tys : TysOk P cx) {src dst : TypeId} {x : Operand} (s : St cx base w.heap μ h) (r : RelE w.heap μ mask e a.tmps) (ho : o.op = .convert src dst x) {v : T}
    (hsrc : ∃ ty, cx.ty src = some ty) (hp : opnd cx mask e x = some p) (hv : bytesT cx dst p = some v) (hh : h' = h) : Done cx base w μ h.size ((execOp a.eval o).run P w) v h' := by
  subst hh
  obtain ⟨ts, hsrc⟩ := hsrc
  obtain ⟨ds, hds, _⟩ := und_of (tys.ty _ _ hsrc)
  replace hv := bnd_eq_some.1 hv; obtain ⟨ty, hty, hv⟩ := hv
  obtain ⟨d, hd, hu⟩ := und_of (tys.ty _ _ hty)
  have hx := opnd_sound s r hp
  cases hut : ty.u <;> rw [hut] at hv hu <;> simp only [reduceCtorEq] at hv
  rename_i el
  have := uOf_slice hu; subst this
  have hform : ∃ bs, p = .str bs := by cases p <;> first | exact ⟨_, rfl⟩ | (simp at hv)
  obtain ⟨bs, rfl⟩ := hform
  have hv : (bnd (cx.ty el) fun te => (match te.u with
        | .int k => chk (kEq k .u8) (@List.rec Nat (fun _ => Option T) (some .ewild) (fun _ _ _ => bnd (mapOpt (fun c => some (T.int .u8 (.ofNat c))) bs) fun es => some (.tree es false)) bs)
        | _ => none)) = some v := hv
  replace hv := bnd_eq_some.1 hv; obtain ⟨te, hte, hv⟩ := hv
  obtain ⟨de, hde, hue⟩ := und_of (tys.ty _ _ hte)
  cases hute : te.u <;> rw [hute] at hv hue <;> simp only [reduceCtorEq] at hv
  rename_i k
  replace hv := chk_eq_some.1 hv; obtain ⟨hk, hv⟩ := hv
  rw [kEq_eq] at hk; subst hk
  have := uOf_int hue; subst this
  obtain ⟨e1, hb⟩ := hx.inv_str
  -- the model's run
  let n := (bytesOf bs).size
  have hrun : ∃ cap w', n ≤ cap ∧ (execOp a.eval o).run P w = .ok (.value (.slice (some ⟨w.heap.size, 0, none⟩) n cap)) w' ∧ w'.heap.size = w.heap.size + 1 ∧ (∀ i, i < w.heap.size → w'.heap[i]? = w.heap[i]?) ∧
      w'.os = w.os ∧ w'.tape = w.tape ∧ w'.output = w.output ∧ ∃ fz, w'.heap[w.heap.size]? = some (.cells ((bytesOf bs).data.map (fun b => Value.int .u8 b.toNat) ++ Array.replicate (cap - n) (.int .u8 0)) el fz) := by
    refine ⟨grownCap w n 0 el, Lib.bytesWorld w el (bytesOf bs), grownCap_ge w _ _ _, ?_, Lib.bytesWorld_size _ _ _, fun i hi => Lib.bytesWorld_at_old _ _ _ i hi, rfl, rfl, rfl, _, Lib.bytesWorld_at_new _ _ _⟩
    simp only [execOp, ho, Sem.run_bind, e1, Lib.run_convert_string_bytes w src dst el (bytesOf bs) hds hd hde, Result.andThen_ok, Sem.run_pure]
    rfl
  obtain ⟨cap, w', hcap, hrun, hsz, hold, ho1, ho2, ho3, fz, hblk⟩ := hrun
  obtain ⟨s', hext⟩ := s.grow (hp' := w'.heap) (by omega) hold
  have hn : n = bs.length := size_bytesOf bs
  refine ⟨_, w', μ, .inl hrun, ?_, s', ⟨hext, ho1, ho2, ho3⟩, Dom.refl _ _⟩
  cases bs with
  | nil =>
    have hv : some T.ewild = some v := hv
    simp at hv; subst hv
    rw [hn]
    exact .ewild _ _
  | cons b bs =>
    have hv : (bnd (mapOpt (fun c => some (T.int .u8 (.ofNat c))) (b :: bs)) fun es => some (T.tree es false)) = some v := hv
    rw [mapOpt_bytes] at hv
    simp only [bnd_some, Option.some.injEq] at hv
    subst hv
    have hnotin : ¬ InMu μ w.heap.size := by
      rintro (⟨c, L, hc, hl⟩ | hr)
      · have := s.lt hc; omega
      · have := s.resLt _ hr; omega
    have hlen : n = (bs.map fun c => T.int .u8 (.ofNat c)).length + 1 := by rw [hn]; simp
    rw [hlen]
    refine .tree (T.int .u8 (.ofNat b)) (bs.map fun c => T.int .u8 (.ofNat c)) false w.heap.size 0 cap 1 _ el fz hnotin hblk (by omega) (by simp) ?_ ?_ ?_ ?_
    · intro v hv
      rw [← List.map_cons (f := fun c => T.int .u8 (.ofNat c))] at hv
      obtain ⟨c, _, rfl⟩ := List.mem_map.1 hv
      rfl
    · rw [← List.map_cons (f := fun c => T.int .u8 (.ofNat c)), flat_ints]
      simp [bytesOf]
    · rw [← List.map_cons (f := fun c => T.int .u8 (.ofNat c)), flat_ints]
      intro v hv
      obtain ⟨c, _, rfl⟩ := List.mem_map.1 hv
      exact ⟨rfl, .int _ _⟩
    · rw [← List.map_cons (f := fun c => T.int .u8 (.ofNat c)), flat_ints]
      intro k v hv
      rw [List.getElem?_map] at hv
      cases hk : (b :: bs)[k]? with
      | none => rw [hk] at hv; simp at hv
      | some q =>
        rw [hk] at hv; simp at hv; subst hv
        have hq : q < 256 := hb q (List.mem_of_getElem? hk)
        have hklt : k < (b :: bs).length := by
          rcases Nat.lt_or_ge k (b :: bs).length with y | y
          · exact y
          · rw [List.getElem?_eq_none y] at hk; simp at hk
        have hget : ((bytesOf (b :: bs)).data.map (fun b => Value.int .u8 b.toNat) ++ Array.replicate (cap - n) (.int .u8 0))[0 + k]? = some (.int .u8 (q : Int)) := by
          rw [Nat.zero_add, Array.getElem?_append_left (by simp [bytesOf]; simpa using hklt), Array.getElem?_map]
          have : (bytesOf (b :: bs)).data[k]? = some (UInt8.ofNat q) := by
            simp only [bytesOf, List.getElem?_toArray, List.getElem?_map, hk, Option.map_some]
          rw [this]
          simp [toNat_ofNat_lt hq]
        rw [Array.getD_eq_getD_getElem?, hget]
        exact .int _ _

theorem hNextS_sound {x : Operand} (s : St cx base w.heap μ h) (r : RelE w.heap μ mask e a.tmps) (ho : o.op = .next x true) {v : T}
    (hh : hNextS x cx mask e h = some (.val v h')) : Done cx base w μ h.size ((execOp a.eval o).run P w) v h' := by
  unfold hNextS at hh
  replace hh := bnd_eq_some.1 hh; obtain ⟨p, hp, hh⟩ := hh
  have hx := opnd_sound s r hp
  have hform : ∃ b, p = .iter b := by cases p <;> first | exact ⟨_, rfl⟩ | (simp at hh)
  obtain ⟨b, rfl⟩ := hform
  replace hh := bnd_eq_some.1 hh; obtain ⟨bx, hbx, hh⟩ := hh
  replace hh := chk_eq_some.1 hh; obtain ⟨hit, hh⟩ := hh
  obtain ⟨L, ad, e1, hb, had⟩ := hx.inv_iter
  obtain ⟨y, hy1, hy2⟩ := s.box b L hb
  rw [hbx] at hy1; simp at hy1; subst hy1
  obtain ⟨hep, hor⟩ := hy2.iter hit
  rcases hor with ⟨str, pos, hel, hbs, hblk⟩ | ⟨es, m1, m2, m3⟩ | ⟨mb, m, pos, since, c0, h1, h2, h3, h4⟩
  rotate_left
  rotate_left
  · exfalso
    rw [h1] at hh
    simp at hh
  rotate_left
  · exfalso
    cases hE : bx.elems with
    | nil => rw [hE] at hh; simp at hh
    | cons z zs =>
      obtain ⟨k, u, me, rfl, _⟩ := m3 0 z (by simp [hE])
      rw [hE] at hh
      simp at hh
  have hL0 : L.ep = 0 := by rw [← hy2.ep]; exact hep
  have hadr := had hL0
  subst hadr
  rw [hel] at hh
  have hget : (getObj L.blk).run P w = .ok (.stringIter (bytesOf str) pos) w := by simp [getObj, Sem.run, hblk]
  have hh : (@Bool.rec (fun _ => Option Did) (some (.val (.tuple [.bool false]) h)) (bnd (nextChar str pos) fun q => two q fun c wd => bnd (normNat (Nat.add pos wd)) fun pos' => bnd (normNat (Nat.succ bx.ver)) fun ver =>
          bnd (h.put b ⟨bx.sz, bx.ep, ver, bx.exact, true, [.str str, .int .i64 (.ofNat pos')]⟩) fun h' =>
            some (.val (.tuple [.bool true, .int .i64 (.ofNat pos), .int .i32 (.ofNat c)]) h')) (Nat.blt pos (lenN str))) = some (.val v h') := hh
  rw [lenN_eq] at hh
  cases hlt : Nat.blt pos str.length with
  | false =>
    rw [hlt] at hh
    have hh : some (Did.val (.tuple [.bool false]) h) = some (.val v h') := hh
    simp at hh
    obtain ⟨rfl, rfl⟩ := hh
    have hge : ¬ pos < str.length := by rw [← Nat.blt_eq]; simp [hlt]
    refine Done.pure (c := .tuple #[.bool false]) s ?_ (.tuple _ _ rfl fun k v hv => ?_)
    · simp [execOp, ho, Instr.next, e1, hget, size_bytesOf, hge]
    · cases k with
      | zero => simp at hv; subst hv; exact .bool _
      | succ k => simp at hv
  | true =>
    rw [hlt] at hh
    have hpl : pos < str.length := by rw [Nat.blt_eq] at hlt; exact hlt
    have hh : (bnd (nextChar str pos) fun q => two q fun c wd => bnd (normNat (Nat.add pos wd)) fun pos' => bnd (normNat (Nat.succ bx.ver)) fun ver =>
          bnd (h.put b ⟨bx.sz, bx.ep, ver, bx.exact, true, [.str str, .int .i64 (.ofNat pos')]⟩) fun h' =>
            some (Did.val (.tuple [.bool true, .int .i64 (.ofNat pos), .int .i32 (.ofNat c)]) h')) = some (.val v h') := hh
    replace hh := bnd_eq_some.1 hh; obtain ⟨⟨c, wd⟩, hc, hh⟩ := hh
    simp only [two_mk, normNat_eq, bnd_some] at hh
    replace hh := bnd_eq_some.1 hh; obtain ⟨h2, hput, hh⟩ := hh
    simp only [Option.some.injEq, Did.val.injEq] at hh
    obtain ⟨rfl, rfl⟩ := hh
    unfold nextChar at hc
    obtain ⟨c', hc1, hc2⟩ := bnd_eq_some.1 hc
    rw [nthD_eq] at hc1
    have hdec : Utf8.decode (bytesOf str) pos = (c, wd) := by
     cases hc3 : Nat.blt c' 128 with
     | false =>
      rw [hc3] at hc2
      have hlt : c' < 256 := hbs c' (List.mem_of_getElem? hc1)
      have hc4 : Nat.blt c' 256 = true := by rw [Nat.blt_eq]; exact hlt
      rw [hc4] at hc2
      have hc2 : some (Utf8.decode (bytesOf str) pos) = some (c, wd) := hc2
      simpa using hc2
     | true =>
      rw [hc3] at hc2
      have hc2 : some (c', 1) = some (c, wd) := hc2
      simp only [Option.some.injEq, Prod.mk.injEq] at hc2
      obtain ⟨rfl, rfl⟩ := hc2
      rw [Nat.blt_eq] at hc3
      have hcb : c' < 256 := by omega
      have hg : (bytesOf str).get! pos = UInt8.ofNat c' := by
        have hs : pos < (bytesOf str).size := by rw [size_bytesOf]; exact hpl
        show (bytesOf str).data[pos]! = _
        rw [getElem!_pos (bytesOf str).data pos hs]
        simp only [bytesOf, List.getElem_toArray, List.getElem_map]
        have : str[pos] = c' := by rw [List.getElem?_eq_getElem hpl] at hc1; simpa using hc1
        rw [this]
      unfold Utf8.decode
      simp only [Nat.add_zero, hg, toNat_ofNat_lt hcb]
      rw [if_pos (by omega)]
    have hset : ∀ ob : Obj, (setObj L.blk ob).run P w = .ok () { w with heap := w.heap.setIfInBounds L.blk ob } := by
      intro ob; simp [setObj, Sem.run, hblk]
    have hLlt := s.lt hb
    obtain ⟨k1, k2, k3⟩ := s.change (L' := L) (hp' := w.heap.setIfInBounds L.blk (.stringIter (bytesOf str) (pos + wd))) hb hput (by simp) (by
      intro i hi hne; rw [Array.getElem?_setIfInBounds_ne (Ne.symm hne)]) (.inl rfl) (by
      intro hext
      refine ⟨hy2.ep, hy2.sz, fun k => by simp at k, fun _ => ⟨hep, .inl ⟨str, pos + wd, rfl, hbs, by simp [hLlt]⟩⟩⟩)
    refine ⟨.tuple #[.bool true, .int .i64 pos, .int .i32 c], { w with heap := w.heap.setIfInBounds L.blk (.stringIter (bytesOf str) (pos + wd)) }, _, .inl ?_, .tuple _ _ rfl fun k v hv => ?_, k1, ⟨k2, rfl, rfl, rfl⟩, k3⟩
    · simp [execOp, ho, Instr.next, e1, hget, size_bytesOf, hpl, hdec, hset, goInt]
    · match k, hv with
      | 0, hv => simp at hv; subst hv; exact .bool _
      | 1, hv => simp at hv; subst hv; exact .int _ _
      | 2, hv => simp at hv; subst hv; exact .int _ _
      | k + 3, hv => simp at hv

theorem bLen_sound (tys : TysOk P cx) (s : St cx base w.heap μ h) {ts : Array TypeId} {ty' : TypeId} {q v : T} {c : Value} (hq : RelV w.heap μ q c) (hh : bLen cx h ts.toList q = some (.val v h')) :
    DoneV cx base w μ h.size ((Builtin.len_ ts ty' #[c]).run P w) v h' := by
  replace hh := bnd_eq_some.1 hh; obtain ⟨t, ht, hh⟩ := hh
  replace hh := bnd_eq_some.1 hh; obtain ⟨ty, hty, hh⟩ := hh
  obtain ⟨d, hd, hu⟩ := und_of (tys.ty _ _ hty)
  have ht : ts[0]? = some t := by rw [nthD_eq] at ht; simpa using ht
  cases hut : ty.u <;> rw [hut] at hh hu <;> simp only [reduceCtorEq] at hh
  · have := uOf_str hu; subst this
    cases q <;> simp at hh
    obtain ⟨hv, rfl⟩ := val_eq_some.1 hh
    simp at hv; subst hv
    obtain ⟨e1, _⟩ := hq.inv_str
    exact DoneV.pure s (by simp [Builtin.len_, ht, run_underlying hd, e1, size_bytesOf, goInt]) (.int _ _)
  · have := uOf_slice hu; subst this
    cases q <;> simp at hh
    · obtain ⟨hv, rfl⟩ := val_eq_some.1 hh
      simp at hv; subst hv
      rename_i es full
      cases es with
      | nil => obtain ⟨ad, e1⟩ := hq.inv_tree0; exact DoneV.pure s (by simp [Builtin.len_, ht, run_underlying hd, e1, goInt]) (.int _ _)
      | cons x0 es => obtain ⟨_, _, _, _, _, _, _, e1, _⟩ := hq.inv_tree; exact DoneV.pure s (by simp [Builtin.len_, ht, run_underlying hd, e1, goInt]) (.int _ _)
    · obtain ⟨hv, rfl⟩ := val_eq_some.1 hh
      simp at hv; subst hv
      obtain ⟨ad, cap, e1⟩ := hq.inv_ewild
      exact DoneV.pure s (by simp [Builtin.len_, ht, run_underlying hd, e1, goInt]) (.int _ _)
    · obtain ⟨hv, rfl⟩ := val_eq_some.1 hh
      simp at hv; subst hv
      obtain ⟨_, _, _, e1, _⟩ := hq.inv_arr
      exact DoneV.pure s (by simp [Builtin.len_, ht, run_underlying hd, e1, goInt]) (.int _ _)
  · have := uOf_array hu; subst this
    obtain ⟨hv, rfl⟩ := val_eq_some.1 hh
    simp at hv; subst hv
    exact DoneV.pure s (by simp [Builtin.len_, ht, run_underlying hd, goInt]) (.int _ _)

/-- A call of a built-in function. -/
theorem builtin_sound (tys : TysOk P cx) (s : St cx base w.heap μ h) (r : RelE w.heap μ mask e a.tmps) {c : Call} {b : Builtin} (ho : o.op = .call c) (hc : c.callee = .builtin b) {args : List T} (hargs : opnds cx mask e c.args.toList = some args) {v : T}
    (hh : builtinT b cx h c.argTypes.toList args = some (.val v h')) : Done cx base w μ h.size ((execOp a.eval o).run P w) v h' := by
  have hL := opnds_sound s r hargs
  have lift : ∀ {m : Sem Value}, (execOp a.eval o).run P w = ((m.run P w).andThen fun v w' => .ok (Next.value v) w') → DoneV cx base w μ h.size (m.run P w) v h' → Done cx base w μ h.size ((execOp a.eval o).run P w) v h' := by
    intro m hr hd
    obtain ⟨z, w', μ', d1, d2, d3, d4, d5⟩ := hd
    exact ⟨z, w', μ', .inl (by rw [hr, d1]; rfl), d2, d3, d4, d5⟩
  have hexec : (execOp a.eval o).run P w = (builtin b c.argTypes o.type (c.args.map fun | .const _ => true | _ => false) (c.args.map a.eval)).run P w := by
    simp [execOp, ho, resolve, hc, invoke]
    rfl
  have hargL : (c.args.map a.eval).toList = c.args.toList.map a.eval := by simp
  cases b <;> simp only [builtinT, reduceCtorEq] at hh
  case len =>
    match args, hh, hL with
    | [x], hh, hL =>
      obtain ⟨c1, cs, hcs, hv, hrest⟩ := hL.uncons
      have hnil : cs = [] := List.eq_nil_of_length_eq_zero (by have := hrest.1; simpa using this.symm)
      subst hnil
      have ha : c.args.map a.eval = #[c1] := by apply Array.ext'; rw [hargL, hcs]
      refine lift (m := Builtin.len_ c.argTypes o.type #[c1]) ?_ (bLen_sound tys s hv hh)
      rw [hexec, ha]; simp [builtin]
  case append =>
    match args, hh, hL with
    | [x, y], hh, hL =>
      match hts : c.argTypes.toList, hh with
      | [t, tx], hh =>
        obtain ⟨c1, cs, hcs, hv, hrest⟩ := hL.uncons
        obtain ⟨c2, cs', rfl, hv2, hrest2⟩ := hrest.uncons
        have hnil : cs' = [] := List.eq_nil_of_length_eq_zero (by have := hrest2.1; simpa using this.symm)
        subst hnil
        have ha : c.args.map a.eval = #[c1, c2] := by apply Array.ext'; rw [hargL, hcs]
        have hta : c.argTypes = #[t, tx] := by apply Array.ext'; rw [hts]
        refine lift (m := Builtin.append_ #[t, tx] o.type #[c1, c2]) ?_ (bAppend_sound tys s hv hv2 hh)
        rw [hexec, ha, hta]; simp [builtin]
  case clear =>
    match args, hh, hL with
    | [x], hh, hL =>
      match hts : c.argTypes.toList, hh with
      | [t], hh =>
        obtain ⟨c1, cs, hcs, hv, hrest⟩ := hL.uncons
        have hnil : cs = [] := List.eq_nil_of_length_eq_zero (by have := hrest.1; simpa using this.symm)
        subst hnil
        have ha : c.args.map a.eval = #[c1] := by apply Array.ext'; rw [hargL, hcs]
        have hta : c.argTypes = #[t] := by apply Array.ext'; rw [hts]
        refine lift (m := Builtin.clear_ #[t] o.type #[c1]) ?_ (bClear_sound tys s hv hh)
        rw [hexec, ha, hta]; simp [builtin]
  case min =>
    match args, hh, hL with
    | [x, y], hh, hL =>
      obtain ⟨hv0, rfl⟩ := val_eq_some.1 hh
      obtain ⟨k, m, n, rfl, rfl, h2⟩ := int2_eq_some hv0
      obtain ⟨c1, cs, hcs, hv, hrest⟩ := hL.uncons
      obtain ⟨c2, cs', rfl, hv2, hrest2⟩ := hrest.uncons
      have hnil : cs' = [] := List.eq_nil_of_length_eq_zero (by have := hrest2.1; simpa using this.symm)
      subst hnil
      rw [hv.inv_int, hv2.inv_int] at hcs
      have ha : c.args.map a.eval = #[.int k m, .int k n] := by apply Array.ext'; rw [hargL, hcs]
      rw [rInt_eq] at h2; simp only [Option.some.injEq] at h2; subst h2
      refine Done.pure s ?_ (.int _ _)
      rw [hexec, ha]
      simp only [builtin, Builtin.min_, List.foldlM, Builtin.min2, Sem.run_bind, Sem.run_pure, Result.andThen_ok]
      have := ltI_eq n m
      by_cases hlt : n < m <;> simp [this, hlt, Builtin.min2]
  case max =>
    match args, hh, hL with
    | [x, y], hh, hL =>
      obtain ⟨hv0, rfl⟩ := val_eq_some.1 hh
      obtain ⟨k, m, n, rfl, rfl, h2⟩ := int2_eq_some hv0
      obtain ⟨c1, cs, hcs, hv, hrest⟩ := hL.uncons
      obtain ⟨c2, cs', rfl, hv2, hrest2⟩ := hrest.uncons
      have hnil : cs' = [] := List.eq_nil_of_length_eq_zero (by have := hrest2.1; simpa using this.symm)
      subst hnil
      rw [hv.inv_int, hv2.inv_int] at hcs
      have ha : c.args.map a.eval = #[.int k m, .int k n] := by apply Array.ext'; rw [hargL, hcs]
      rw [rInt_eq] at h2; simp only [Option.some.injEq] at h2; subst h2
      refine Done.pure s ?_ (.int _ _)
      rw [hexec, ha]
      have := ltI_eq m n
      by_cases hlt : m < n <;> simp [builtin, Builtin.max_, Builtin.max2, this, hlt]
end
end Go.TI

/- Maps with keys that are numbers, bools, strings; 'string(b)'. -/
set_option linter.unusedVariables false
namespace Go.TI
open Go.MapKept

theorem bytesOf_inj {s t : List Nat} (hs : ∀ x ∈ s, x < 256) (ht : ∀ x ∈ t, x < 256) (h : bytesOf s = bytesOf t) : s = t := by
  have := bytes_beq hs ht
  rw [h] at this
  have h2 : (bytesOf t == bytesOf t) = true := by rw [bytes_beq ht ht, eqL_eq]; simp
  rw [h2, eqL_eq] at this
  simpa using this.symm

section
variable {P : Program} {cx : Ctx} {base : Nat} {w : World} {μ : Mu} {h h' : H} {mask : Nat} {e : Env} {a : Act} {o : Oper} {hp hp' : Array Obj} {p : T}

theorem hMakeMap_sound (tys : TysOk P cx) {t : TypeId} {x : Option Operand} (s : St cx base w.heap μ h) (ho : o.op = .makeMap t x) {v : T}
    (hh : hMakeMap t x cx mask e h = some (.val v h')) : Done cx base w μ h.size ((execOp a.eval o).run P w) v h' := by
  unfold hMakeMap at hh
  cases x with
  | some y => simp at hh
  | none =>
    simp only at hh
    replace hh := bnd_eq_some.1 hh; obtain ⟨ty, hty, hh⟩ := hh
    cases hut : ty.u <;> rw [hut] at hh <;> simp only [reduceCtorEq] at hh
    rw [valNew_eq_some, H.new_cons] at hh
    simp only [Option.some.injEq, Prod.mk.injEq] at hh
    obtain ⟨rfl, rfl⟩ := hh
    obtain ⟨k1, k2, k3⟩ := s.new (.map #[] 0) ⟨0, w.heap.size, 0, 0⟩ ⟨0, 0, 0, true, true, []⟩ rfl (by
      intro hext
      refine ⟨rfl, rfl, fun k => by simp at k, fun _ => ⟨rfl, .inr (.inl ⟨#[], by simp, rfl, fun i x hx => by simp at hx⟩)⟩⟩)
    refine ⟨.map (some w.heap.size), { w with heap := w.heap.push (.map #[] 0) }, _, .inl ?_, .map _ _ _ (setMu_same _ _ _) (fun _ => rfl), k1, ⟨k2, rfl, rfl, rfl⟩, k3⟩
    simp [execOp, ho, Instr.makeMap]

theorem keyOk_isKey {d : TypeDesc} {u : U} (hu : uOf P d = some u) {k : T} {c : Value} (hk : keyOk u k = true) (hc : RelV hp μ k c) : IsKey d c := by
  cases u <;> simp only [keyOk, Bool.false_eq_true] at hk
  · have := uOf_int hu; subst this
    cases k <;> simp only [Bool.false_eq_true] at hk
    rw [kEq_eq] at hk; subst hk
    rw [hc.inv_int]; simp [IsKey]
  · have := uOf_bool hu; subst this
    cases k <;> simp only [Bool.false_eq_true] at hk
    rw [hc.inv_bool]; simp [IsKey]
  · have := uOf_str hu; subst this
    cases k <;> simp only [Bool.false_eq_true] at hk
    rw [hc.inv_str.1]; simp [IsKey]

theorem eqCell_key {d : TypeDesc} {u : U} (hu : uOf P d = some u) {k k' : T} {c c' : Value} (hk : keyOk u k = true) (hc : RelV hp μ k c) (hc' : RelV hp μ k' c') {t : Bool} (hh : eqCell u k k' = some t) :
    IsKey d c' ∧ (t = true ↔ c' = c) := by
  cases u <;> simp only [keyOk, Bool.false_eq_true] at hk
  · have := uOf_int hu; subst this
    cases k <;> simp only [Bool.false_eq_true] at hk
    rw [kEq_eq] at hk; subst hk
    cases k' <;> simp only [eqCell, reduceCtorEq] at hh
    obtain ⟨h1, hh2⟩ := chk_eq_some.1 hh
    clear hh
    rw [kEq_eq] at h1
    subst h1
    rw [hc.inv_int, hc'.inv_int]
    replace hh2 := Option.some.inj hh2
    subst hh2
    rw [eqI_eq]
    refine ⟨by simp [IsKey], ?_⟩
    rw [beq_iff_eq]
    constructor
    · intro hq; rw [hq]
    · intro hq; injection hq with _ h2; exact h2.symm
  · have := uOf_bool hu; subst this
    cases k <;> simp only [Bool.false_eq_true] at hk
    cases k' <;> simp only [eqCell, reduceCtorEq] at hh
    rw [hc.inv_bool, hc'.inv_bool]
    rename_i a b
    simp only [Option.some.injEq] at hh
    subst hh
    cases a <;> cases b <;> simp [IsKey]
  · have := uOf_str hu; subst this
    cases k <;> simp only [Bool.false_eq_true] at hk
    cases k' <;> simp only [eqCell, reduceCtorEq] at hh
    obtain ⟨e1, b1⟩ := hc.inv_str
    obtain ⟨e2, b2⟩ := hc'.inv_str
    rw [e1, e2]
    simp only [Option.some.injEq] at hh
    subst hh
    rw [eqL_eq]
    refine ⟨by simp [IsKey], ?_⟩
    simp only [beq_iff_eq, Value.string.injEq]
    constructor
    · intro hq; rw [hq]
    · intro hq; exact (bytesOf_inj b2 b1 hq).symm

/-- A list of entries stands for the model's. -/
def RelM (hp : Array Obj) (μ : Mu) (l : List T) (es : List MapEntry) : Prop :=
  l.length = es.length ∧ ∀ (i : Nat) x, l[i]? = some x → ∃ k v me, x = .tuple [k, v] ∧ es[i]? = some me ∧ RelV hp μ k me.key ∧ RelV hp μ v me.val

theorem findEnt_sound {d : TypeDesc} {u : U} (hu : uOf P d = some u) {k : T} {c : Value} (hk : keyOk u k = true) (hc : RelV hp μ k c) : ∀ (l : List T) (es : List MapEntry) (i : Nat) (r : Option (Nat × T)),
    RelM hp μ l es → findEnt u k l i = some r →
    (r = none ∧ Instr.findNow d c es i = some none) ∨ ∃ j v me, r = some (i + j, v) ∧ Instr.findNow d c es i = some (some (i + j, me.val)) ∧ es[j]? = some me ∧ RelV hp μ v me.val ∧ me.key = c := by
  intro l
  induction l with
  | nil =>
    intro es i r hM hh
    have hes : es = [] := List.eq_nil_of_length_eq_zero hM.1.symm
    subst hes
    have hh : some none = some r := hh
    simp only [Option.some.injEq] at hh
    exact .inl ⟨hh.symm, rfl⟩
  | cons x l ih =>
    intro es i r hM hh
    obtain ⟨k', v', me, rfl, h1, h2, h3⟩ := hM.2 0 x (by simp)
    have hh : (bnd (eqCell u k k') fun t => @Bool.rec (fun _ => Option (Option (Nat × T))) (bnd (normNat (Nat.succ i)) fun i' => findEnt u k l i') (some (some (i, v'))) t) = some r := hh
    replace hh := bnd_eq_some.1 hh; obtain ⟨t, ht, hh⟩ := hh
    obtain ⟨q1, q2⟩ := eqCell_key hu hk hc h2 ht
    cases es with
    | nil => simp at h1
    | cons me' es =>
      simp at h1; subst h1
      obtain ⟨t', s1, s2⟩ := sameNow_of_keys (keyOk_isKey hu hk hc) q1
      have htt : t' = t := by
        rw [Bool.eq_iff_iff]
        exact s2.trans (eq_comm.trans q2.symm)
      subst htt
      cases t' with
      | true =>
        have hh : some (some (i, v')) = some r := hh
        simp only [Option.some.injEq] at hh
        exact .inr ⟨0, v', me', hh.symm, by simp [Instr.findNow, s1], rfl, h3, q2.1 rfl⟩
      | false =>
        have hh : findEnt u k l (i + 1) = some r := by simpa using hh
        have hM' : RelM hp μ l es := ⟨by have := hM.1; simpa using this, fun n y hy => by
          have := hM.2 (n + 1) y (by simpa using hy)
          simpa using this⟩
        rcases ih es (i + 1) r hM' hh with ⟨r1, r2⟩ | ⟨j, v, me, r1, r2, r3, r4, r5⟩
        · exact .inl ⟨r1, by simp [Instr.findNow, s1, r2]⟩
        · refine .inr ⟨j + 1, v, me, by rw [r1]; congr 2; omega, ?_, by simpa using r3, r4, r5⟩
          simp only [Instr.findNow, s1, r2]
          congr 3; omega

theorem MapOk.relM {L : Loc} {l : List T} {es : Array MapEntry} (h2 : es.size = l.length)
    (h3 : ∀ (i : Nat) x, l[i]? = some x → ∃ k v me, x = .tuple [k, v] ∧ es[i]? = some me ∧ me.born = i ∧ RelV hp μ k me.key ∧ RelV hp μ v me.val) : RelM hp μ l es.toList :=
  ⟨by simp [h2], fun i x hx => by
    obtain ⟨k, v, me, g1, g2, g3, g4, g5⟩ := h3 i x hx
    exact ⟨k, v, me, g1, by simpa using g2, g4, g5⟩⟩

theorem mapLike_cons {x : T} {l : List T} (h : mapLike (x :: l) = true) : ∃ vs, x = .tuple vs := by
  cases x <;> first | exact ⟨_, rfl⟩ | (simp [mapLike] at h)

theorem findEnt_like {u : U} {k : T} {l : List T} {i : Nat} {r : Option (Nat × T)} (hf : findEnt u k l i = some r) : mapLike l = true := by
  cases l with
  | nil => rfl
  | cons x l =>
    cases x with
    | tuple vs => rfl
    | _ => exact absurd hf (by intro q; have q : (none : Option (Option (Nat × T))) = some r := q; simp at q)

theorem findArr_like {u : U} {cs : List T} {l : List T} {i : Nat} {r : Option (Nat × T)} (hf : findArr u cs l i = some r) : mapLike l = true := by
  cases l with
  | nil => rfl
  | cons x l =>
    cases x with
    | tuple vs => rfl
    | _ => exact absurd hf (by intro q; have q : (none : Option (Option (Nat × T))) = some r := q; simp at q)

/-- A box that is looked at as a map is one. -/
theorem St.mapOf (s : St cx base hp μ h) {b : Nat} {L : Loc} {x : Box} (hb : μ b = some L) (hg : h.get b = some x) (hit : x.it = true) (hf : mapLike x.elems = true) :
    L.ep = 0 ∧ x.ep = 0 ∧ MapOk hp μ L x.elems := by
  obtain ⟨y, h1, h2⟩ := s.box b L hb
  rw [hg] at h1; simp only [Option.some.injEq] at h1; subst h1
  obtain ⟨h0, hor⟩ := h2.iter hit
  refine ⟨by rw [← h2.ep]; exact h0, h0, ?_⟩
  rcases hor with ⟨str, pos, he, _⟩ | hm | ⟨mb, m, pos, since, c0, he, _⟩
  · rw [he] at hf; simp [mapLike] at hf
  · exact hm
  · rw [he] at hf; simp [mapLike] at hf

theorem und_map {ty : Ty} {d : TypeDesc} {k e : TypeId} (hu : uOf P d = some ty.u) (hut : ty.u = .map k e) : d = .map k e := by
  rw [hut] at hu
  cases d <;> simp only [uOf] at hu <;> first
    | (simp only [Option.some.injEq, reduceCtorEq] at hu; done)
    | (simp only [Option.some.injEq, U.map.injEq] at hu; obtain ⟨rfl, rfl⟩ := hu; rfl)
    | (split at hu <;> simp at hu)

/-- What a look-up comes to. -/
def lookOut (ok : Bool) (z : Value) (res : Option (Nat × Value)) : Value :=
  match res with
  | some (_, c) => if ok then .tuple #[c, .bool true] else c
  | none => if ok then .tuple #[z, .bool false] else z

theorem hLookup_sound (tys : TysOk P cx) {t : TypeId} {x ix : Operand} {ok : Bool} (s : St cx base w.heap μ h) (r : RelE w.heap μ mask e a.tmps) (ho : o.op = .lookup t x ix ok) {v : T}
    (hh : hLookup t x ix ok cx mask e h = some (.val v h')) : Done cx base w μ h.size ((execOp a.eval o).run P w) v h' := by
  replace hh := bnd_eq_some.1 hh; obtain ⟨ty, hty, hh⟩ := hh
  obtain ⟨d, hd, hu⟩ := und_of (tys.ty _ _ hty)
  cases hut : ty.u <;> rw [hut] at hh <;> simp only [reduceCtorEq] at hh
  rename_i kt et
  have := und_map hu hut; subst this
  replace hh := bnd_eq_some.1 hh; obtain ⟨tk, htk, hh⟩ := hh
  replace hh := bnd_eq_some.1 hh; obtain ⟨te, hte, hh⟩ := hh
  replace hh := bnd_eq_some.1 hh; obtain ⟨p, hp, hh⟩ := hh
  replace hh := bnd_eq_some.1 hh; obtain ⟨k, hk, hh⟩ := hh
  replace hh := chk_eq_some.1 hh; obtain ⟨hko, hh⟩ := hh
  replace hh := bnd_eq_some.1 hh; obtain ⟨es, hes, hh⟩ := hh
  replace hh := bnd_eq_some.1 hh; obtain ⟨rr, hrr, hh⟩ := hh
  obtain ⟨dk, hdk, huk⟩ := und_of (tys.ty _ _ htk)
  have hx := opnd_sound s r hp
  have hkv := opnd_sound s r hk
  have hkey := keyOk_isKey huk hko hkv
  obtain ⟨z, hz, hzr, _⟩ := (tys.ty _ _ hte).zero w
  -- the model's entries
  have hform : ∃ esM : Array MapEntry, RelM w.heap μ es esM.toList ∧
      ((a.eval x = .map none ∧ esM = #[]) ∨ ∃ i clock, a.eval x = .map (some i) ∧ w.heap[i]? = some (.map esM clock)) := by
    unfold H.entries at hes
    cases p <;> simp only [reduceCtorEq] at hes
    · rename_i b
      replace hes := bnd_eq_some.1 hes; obtain ⟨bx, hbx, hes⟩ := hes
      obtain ⟨sz, ep, ver, ex, it, elems⟩ := bx
      replace hes := chk_eq_some.1 hes; obtain ⟨hit, hes⟩ := hes
      simp only [Option.some.injEq] at hes; subst hes
      obtain ⟨L, i, e1, hb, hi⟩ := hx.inv_map
      obtain ⟨l0, _, esM, m1, m2, m3⟩ := s.mapOf hb hbx hit (findEnt_like hrr)
      exact ⟨esM, MapOk.relM (L := L) m2 m3, .inr ⟨i, esM.size, e1, by rw [hi l0]; exact m1⟩⟩
    · simp only [Option.some.injEq] at hes; subst hes
      exact ⟨#[], ⟨rfl, fun i x hx => by simp at hx⟩, .inl ⟨hx.inv_nilm, rfl⟩⟩
  obtain ⟨esM, hM, hev⟩ := hform
  have hfind := findEnt_sound huk hko hkv es esM.toList 0 rr hM hrr
  have hrun : ∀ res : Option (Nat × Value), Instr.findNow dk (a.eval ix) esM.toList 0 = some res →
      (execOp a.eval o).run P w = .ok (.value (lookOut ok z res)) w := by
    intro res hres
    have hck := fun b => run_checkKey (P := P) (w := w) hdk hkey b 9999
    have hfk := run_findKey (P := P) (w := w) (kt := kt) hdk hres
    have hl : (Instr.lookup t (a.eval x) (a.eval ix) ok).run P w = .ok (lookOut ok z res) w := by
      unfold Instr.lookup
      rcases hev with ⟨e1, rfl⟩ | ⟨i, clock, e1, e2⟩
      · simp only [Sem.run_bind, run_underlying hd, Result.andThen_ok, e1, Sem.run_pure, hck, hfk]
        cases res with
        | none => simp only [Sem.run_bind, hz, Result.andThen_ok, Sem.run_pure, lookOut]
        | some q => obtain ⟨n, c⟩ := q; simp only [Sem.run_bind, Sem.run_pure, Result.andThen_ok, lookOut]
      · simp only [Sem.run_bind, run_underlying hd, Result.andThen_ok, e1, Go.MapKept.run_getObj_map (P := P) e2, Sem.run_pure, hck, hfk]
        cases res with
        | none => simp only [Sem.run_bind, hz, Result.andThen_ok, Sem.run_pure, lookOut]
        | some q => obtain ⟨n, c⟩ := q; simp only [Sem.run_bind, Sem.run_pure, Result.andThen_ok, lookOut]
    simp only [execOp, ho, Sem.run_bind, hl, Result.andThen_ok, Sem.run_pure]
  have tup : ∀ {x y : T} {c d : Value}, RelV w.heap μ x c → RelV w.heap μ y d → RelV w.heap μ (.tuple [x, y]) (.tuple #[c, d]) := by
    intro x y c d h1 h2
    refine .tuple _ _ rfl fun n u hn => ?_
    match n, hn with
    | 0, hn => simp at hn; subst hn; exact h1
    | 1, hn => simp at hn; subst hn; exact h2
    | n + 2, hn => simp at hn
  rcases hfind with ⟨rfl, f1⟩ | ⟨j, u, me, rfl, f1, f2, f3, f4⟩
  · have hr1 := hrun none f1
    simp only at hh
    cases ok with
    | false =>
      have hh : val h (some te.zeroT) = some (.val v h') := hh
      obtain ⟨hv, rfl⟩ := val_eq_some.1 hh
      simp only [Option.some.injEq] at hv; subst hv
      exact Done.pure s hr1 (hzr _ _)
    | true =>
      have hh : val h (some (T.tuple [te.zeroT, .bool false])) = some (.val v h') := hh
      obtain ⟨hv, rfl⟩ := val_eq_some.1 hh
      simp only [Option.some.injEq] at hv; subst hv
      exact Done.pure s hr1 (tup (hzr _ _) (.bool _))
  · have hr1 := hrun _ f1
    simp only [two_mk] at hh
    cases ok with
    | false =>
      have hh : val h (some u) = some (.val v h') := hh
      obtain ⟨hv, rfl⟩ := val_eq_some.1 hh
      simp only [Option.some.injEq] at hv; subst hv
      exact Done.pure s hr1 f3
    | true =>
      have hh : val h (some (T.tuple [u, .bool true])) = some (.val v h') := hh
      obtain ⟨hv, rfl⟩ := val_eq_some.1 hh
      simp only [Option.some.injEq] at hv; subst hv
      exact Done.pure s hr1 (tup f3 (.bool _))

theorem sameBits_key {d : TypeDesc} {c : Value} (hk : IsKey d c) (n : Nat) : Instr.sameBits n c c = true := by
  cases d <;> cases c <;> simp_all [IsKey] <;> simp [Instr.sameBits, Go.MapKept.bytes_beq]

theorem allB_all {α : Type} {f : α → Bool} {l : List α} (hh : allB f l = true) : ∀ x ∈ l, f x = true := by
  induction l with
  | nil => intro x hx; simp at hx
  | cons y l ih =>
    have hh : @Bool.rec (fun _ => Bool) false (allB f l) (f y) = true := hh
    cases hy : f y with
    | false => rw [hy] at hh; simp at hh
    | true =>
      rw [hy] at hh
      intro x hx
      rcases List.mem_cons.1 hx with rfl | hx
      · exact hy
      · exact ih hh x hx

/-! keys that are arrays of numbers -/

theorem findAny_like {u : U} {k : T} {l : List T} {i : Nat} {r : Option (Nat × T)} (hf : findAny cx u k l i = some r) : mapLike l = true := by
  unfold findAny at hf
  split at hf
  · split at hf
    · obtain ⟨te, _, hf⟩ := bnd_eq_some.1 hf
      exact findArr_like hf
    · simp at hf
  · exact findEnt_like hf

theorem ints_unique : ∀ {cs : List T} {l1 l2 : List Value}, (∀ v ∈ cs, ∃ k n, v = T.int k n) → RelL hp μ cs l1 → RelL hp μ cs l2 → l1 = l2 := by
  intro cs
  induction cs with
  | nil =>
    intro l1 l2 _ h1 h2
    have e1 : l1 = [] := List.eq_nil_of_length_eq_zero h1.1.symm
    have e2 : l2 = [] := List.eq_nil_of_length_eq_zero h2.1.symm
    rw [e1, e2]
  | cons v cs ih =>
    intro l1 l2 hi h1 h2
    obtain ⟨c, l1', rfl, r1, q1⟩ := h1.uncons
    obtain ⟨d, l2', rfl, r2, q2⟩ := h2.uncons
    obtain ⟨k, n, rfl⟩ := hi v (by simp)
    rw [r1.inv_int, r2.inv_int, ih (fun x hx => hi x (List.mem_cons_of_mem _ hx)) q1 q2]

theorem eqElems_ints {kd : IntKind} : ∀ {cs ds : List T} {b : Bool}, (∀ v ∈ cs, ∃ n, v = T.int kd n) → eqElems (.int kd) cs ds = some b → (b = true → ds = cs) := by
  intro cs
  induction cs with
  | nil =>
    intro ds b _ hh hb
    cases ds with
    | nil => rfl
    | cons d ds =>
      have hh : (none : Option Bool) = some b := hh
      simp at hh
  | cons v cs ih =>
    intro ds b hi hh hb
    cases ds with
    | nil =>
      have hh : (none : Option Bool) = some b := hh
      simp at hh
    | cons d ds =>
      have hh : (bnd (eqCell (.int kd) v d) fun t => @Bool.rec (fun _ => Option Bool) (some false) (eqElems (.int kd) cs ds) t) = some b := hh
      obtain ⟨t, ht, hh⟩ := bnd_eq_some.1 hh
      obtain ⟨n, rfl⟩ := hi v (by simp)
      cases t with
      | false =>
        have hh : some false = some b := hh
        simp only [Option.some.injEq] at hh; subst hh; simp at hb
      | true =>
        have hh : eqElems (.int kd) cs ds = some b := hh
        have e := ih (fun x hx => hi x (List.mem_cons_of_mem _ hx)) hh hb
        subst e
        cases d <;> simp only [eqCell, reduceCtorEq] at ht
        obtain ⟨h1, h2⟩ := chk_eq_some.1 ht
        rw [kEq_eq] at h1; subst h1
        simp only [Option.some.injEq] at h2
        rw [eqI_eq] at h2
        have := beq_iff_eq.1 h2
        rw [this]

theorem sameBits_ints {l : List Value} (h : ∀ v ∈ l, ∃ k n, v = Value.int k n) (n : Nat) : Instr.sameBits (n + 1) (.agg l.toArray) (.agg l.toArray) = true := by
  simp only [Instr.sameBits, beq_self_eq_true, Bool.true_and]
  rw [List.all_eq_true]
  intro x hx
  obtain ⟨a, b⟩ := x
  have : a = b ∧ a ∈ l := by
    have hx : (a, b) ∈ l.zip l := by simpa using hx
    obtain ⟨i, hi, he⟩ := List.getElem_of_mem hx
    rw [List.getElem_zip] at he
    simp only [Prod.mk.injEq] at he
    obtain ⟨rfl, rfl⟩ := he
    exact ⟨rfl, List.getElem_mem _⟩
  obtain ⟨rfl, hm⟩ := this
  obtain ⟨k, m, rfl⟩ := h a hm
  simp [Instr.sameBits]

theorem run_checkKey_ints {kt e : TypeId} {n : Nat} {kd : IntKind} (hu : P.underlying kt = some (.array n e)) (he : P.underlying e = some (.int kd)) (h1 : P.cellsOf e = 1) {i : TypeInfo} (hi : P.info? e = some i) {xs : Array Value}
    (hx : ∀ j, j < n → ∃ m, xs[j]? = some (.int kd m)) (em : Bool) (d : Nat) : (Instr.checkKey em (d + 2) kt (.agg xs)).run P w = .ok () w := by
  have hpl : P.plainKey e = true := by simp [Program.plainKey, he]
  simp only [Instr.checkKey, Sem.run_bind, run_underlying hu, Result.andThen_ok]
  simp only [Std.Legacy.Range.forIn_eq_forIn_range', Std.Legacy.Range.size, Nat.sub_zero, Nat.add_one_sub_one, Nat.div_one]
  have hall : ∀ j ∈ List.range' 0 n, j < n := fun j hj => by simpa using hj
  revert hall
  generalize List.range' 0 n = is
  intro hall
  induction is with
  | nil => simp
  | cons j is ih =>
    obtain ⟨m, hm⟩ := hx j (hall j (by simp))
    have hm' : xs[j * P.cellsOf e]? = some (.int kd m) := by rw [h1, Nat.mul_one]; exact hm
    have hp := Go.run_part_plain (P := P) w hpl hm'
    simp only [List.forIn_cons, Sem.run_bind, run_sizeOf w hi, Result.andThen_ok, hp, run_underlying he, Sem.run_pure]
    exact ih fun k hk => hall k (List.mem_cons_of_mem _ hk)

theorem findArr_sound {kt e : TypeId} {n : Nat} {kd : IntKind} (hu : P.underlying kt = some (.array n e)) {te : Ty} (hte : TyOk P e te) (hue : te.u = .int kd) (h1 : P.cellsOf e = 1) {i : TypeInfo} (hi : P.info? e = some i) {cs : List T} {ca : Array Value}
    (hc : RelL w.heap μ cs ca.toList) (hn : cs.length = n) (hint : ∀ v ∈ cs, ∃ m, v = T.int kd m) : ∀ (l : List T) (es : List MapEntry) (i0 : Nat) (r : Option (Nat × T)),
    RelM w.heap μ l es → findArr te.u cs l i0 = some r →
    (r = none ∧ (Instr.findAsking kt (.agg ca) es i0).run P w = .ok none w) ∨ ∃ j v me, r = some (i0 + j, v) ∧ (Instr.findAsking kt (.agg ca) es i0).run P w = .ok (some (i0 + j, me.val)) w ∧ es[j]? = some me ∧ RelV w.heap μ v me.val ∧ me.key = .agg ca := by
  intro l
  induction l with
  | nil =>
    intro es i0 r hM hh
    have hes : es = [] := List.eq_nil_of_length_eq_zero hM.1.symm
    subst hes
    have hh : some none = some r := hh
    simp only [Option.some.injEq] at hh
    exact .inl ⟨hh.symm, by simp [Instr.findAsking]⟩
  | cons x l ih =>
    intro es i0 r hM hh
    obtain ⟨k', v', me, rfl, g1, g2, g3⟩ := hM.2 0 x (by simp)
    have hk' : ∃ ds, k' = .agg ds := by
      cases k' <;> first | exact ⟨_, rfl⟩ | (exact absurd hh (by intro q; have q : (none : Option (Option (Nat × T))) = some r := q; simp at q))
    obtain ⟨ds, rfl⟩ := hk'
    have hh : (bnd (eqElems te.u cs ds) fun t => @Bool.rec (fun _ => Option (Option (Nat × T))) (bnd (normNat (Nat.succ i0)) fun i' => findArr te.u cs l i') (some (some (i0, v'))) t) = some r := hh
    replace hh := bnd_eq_some.1 hh; obtain ⟨t, ht, hh⟩ := hh
    obtain ⟨da, hda, L2, _⟩ := g2.inv_agg
    cases es with
    | nil => simp at g1
    | cons me' es =>
      simp at g1; subst g1
      have heq : (Op.equal kt (.agg ca) me'.key).run P w = .ok t w := by
        rw [hda]
        show (Op.equalIn 10000 kt (.agg ca) (.agg da)).run P w = .ok t w
        rw [run_equalIn_array w 9999 ca da hu hi, List.range_eq_range', h1, ← hn]
        exact eqElems_sound hte (by rw [hue]; rfl) 9998 _ _ 0 ca da t (by simpa using hc) (by simpa using L2) ht
      cases t with
      | true =>
        have hh : some (some (i0, v')) = some r := hh
        simp only [Option.some.injEq] at hh
        have e := eqElems_ints hint (by rw [← hue]; exact ht) rfl
        rw [e] at L2
        refine .inr ⟨0, v', me', hh.symm, by simp [Instr.findAsking, heq], rfl, g3, ?_⟩
        rw [hda]
        congr 1
        exact Array.ext' (ints_unique (fun v hv => by obtain ⟨m, rfl⟩ := hint v hv; exact ⟨_, _, rfl⟩) L2 hc)
      | false =>
        have hh : findArr te.u cs l (i0 + 1) = some r := by simpa using hh
        have hM' : RelM w.heap μ l es := ⟨by have := hM.1; simpa using this, fun n y hy => by
          have := hM.2 (n + 1) y (by simpa using hy)
          simpa using this⟩
        rcases ih es (i0 + 1) r hM' hh with ⟨r1, r2⟩ | ⟨j, v, me, r1, r2, r3, r4, r5⟩
        · exact .inl ⟨r1, by simp [Instr.findAsking, heq, r2]⟩
        · refine .inr ⟨j + 1, v, me, by rw [r1]; congr 2; omega, ?_, by simpa using r3, r4, r5⟩
          simp only [Instr.findAsking, Sem.run_bind, heq, Result.andThen_ok, Bool.false_eq_true, if_false, r2]
          congr 3; omega

theorem findAny_sound (tys : TysOk P cx) {kt : TypeId} {tk : Ty} (htk : cx.ty kt = some tk) {k : T} {c : Value} (hk : keyAny cx tk.u k = true) (hc : RelV w.heap μ k c) {l : List T} {es : Array MapEntry} {r : Option (Nat × T)} (hM : RelM w.heap μ l es.toList)
    (hh : findAny cx tk.u k l 0 = some r) :
    (Instr.checkKey false 10000 kt c).run P w = .ok () w ∧ Instr.sameBits 10000 c c = true ∧
    ((r = none ∧ (Instr.findKey kt c es.toList).run P w = .ok none w) ∨ ∃ j v me, r = some (j, v) ∧ (Instr.findKey kt c es.toList).run P w = .ok (some (j, me.val)) w ∧ es.toList[j]? = some me ∧ RelV w.heap μ v me.val ∧ me.key = c) := by
  obtain ⟨dk, hdk, huk⟩ := und_of (tys.ty _ _ htk)
  have hk : (@Bool.rec (fun _ => Bool) (keyArr cx tk.u k) true (keyOk tk.u k)) = true := hk
  cases hko : keyOk tk.u k with
  | true =>
    have hh : findEnt tk.u k l 0 = some r := by
      unfold findAny at hh
      split at hh
      · rename_i hu; rw [hu] at hko; simp [keyOk] at hko
      · exact hh
    have hkey := keyOk_isKey huk hko hc
    refine ⟨run_checkKey (P := P) (w := w) hdk hkey false 9999, sameBits_key hkey _, ?_⟩
    rcases findEnt_sound huk hko hc l es.toList 0 r hM hh with ⟨h1, h2⟩ | ⟨j, v, me, h1, h2, h3, h4, h5⟩
    · exact .inl ⟨h1, run_findKey (P := P) (w := w) (kt := kt) hdk h2⟩
    · rw [Nat.zero_add] at h1 h2
      exact .inr ⟨j, v, me, h1, run_findKey (P := P) (w := w) (kt := kt) hdk h2, h3, h4, h5⟩
  | false =>
    rw [hko] at hk
    have hk : keyArr cx tk.u k = true := hk
    unfold keyArr at hk
    split at hk
    rotate_left
    · simp at hk
    rename_i n e hue
    split at hk
    rotate_left
    · simp at hk
    rename_i cs _ _
    rw [hue] at huk hh
    have hd := uOf_array huk
    subst hd
    have hk : (@Bool.rec (fun _ => Bool) false (@Option.rec Ty (fun _ => Bool) false (fun te => @Bool.rec (fun _ => Bool) false (match te.u with
        | .int kd => allB (fun c => match c with | .int kd' _ => kEq kd kd' | _ => false) cs
        | _ => false) (Nat.beq te.size 1)) (cx.ty e)) (Nat.beq (lenN cs) n)) = true := hk
    have hh : (bnd (cx.ty e) fun te => findArr te.u cs l 0) = some r := hh
    obtain ⟨te, hte0, hh⟩ := bnd_eq_some.1 hh
    cases hb1 : Nat.beq (lenN cs) n with
    | false => rw [hb1] at hk; simp at hk
    | true =>
      rw [hb1, hte0] at hk
      cases hb2 : Nat.beq te.size 1 with
      | false => simp only [hb2] at hk; simp at hk
      | true =>
        simp only [hb2] at hk
        have hkd : ∃ kd, te.u = .int kd := by cases hq : te.u <;> rw [hq] at hk <;> first | exact ⟨_, rfl⟩ | (simp at hk)
        obtain ⟨kd, hkd⟩ := hkd
        rw [hkd] at hk
        have hk : allB (fun c => match c with | T.int kd' _ => kEq kd kd' | _ => false) cs = true := hk
        have hint : ∀ v ∈ cs, ∃ m, v = T.int kd m := by
          intro v hv
          have := allB_all hk v hv
          cases v <;> simp only [Bool.false_eq_true] at this
          rw [kEq_eq] at this; subst this
          exact ⟨_, rfl⟩
        have hte := tys.ty _ _ hte0
        obtain ⟨i', d', z', hi', _, _, _, _, _, _, hsz', _⟩ := hte.unfold
        have hone : P.cellsOf e = 1 := by
          have := Nat.eq_of_beq_eq_true hb2
          simp only [Program.cellsOf, hi', Option.map_some, Option.getD_some]
          omega
        obtain ⟨de, hde, huee⟩ := und_of hte
        rw [hkd] at huee
        have hd2 := uOf_int huee
        subst hd2
        have hln : cs.length = n := by have := Nat.eq_of_beq_eq_true hb1; rwa [lenN_eq] at this
        obtain ⟨ca, rfl, L1, _⟩ := hc.inv_agg
        have hca : ∀ j, j < n → ∃ m, ca[j]? = some (.int kd m) := by
          intro j hj
          have hj' : j < cs.length := by omega
          obtain ⟨m, hm⟩ := hint cs[j] (List.getElem_mem hj')
          obtain ⟨u, hu1, hu2⟩ := L1.get (k := j) (v := cs[j]) (by simp [hj'])
          rw [hm] at hu2
          rw [hu2.inv_int] at hu1
          exact ⟨m, by simpa using hu1⟩
        have hints : ∀ v ∈ ca.toList, ∃ k n, v = Value.int k n := by
          intro v hv
          obtain ⟨j, hj⟩ := List.mem_iff_getElem?.1 hv
          have hjl : j < n := by
            rcases Nat.lt_or_ge j n with q | q
            · exact q
            · rw [List.getElem?_eq_none (by have := L1.1; omega)] at hj; simp at hj
          obtain ⟨m, hm⟩ := hca j hjl
          have : ca.toList[j]? = some (.int kd m) := by simpa using hm
          rw [hj] at this
          simp only [Option.some.injEq] at this
          exact ⟨kd, m, this⟩
        refine ⟨run_checkKey_ints hdk hde hone hi' hca false 9998, by simpa using sameBits_ints hints 9999, ?_⟩
        rw [run_findKey_eq w (by rw [hdk])]
        rcases findArr_sound hdk hte hkd hone hi' L1 hln hint l es.toList 0 r hM hh with ⟨h1, h2⟩ | ⟨j, v, me, h1, h2, h3, h4, h5⟩
        · exact .inl ⟨h1, h2⟩
        · rw [Nat.zero_add] at h1 h2
          exact .inr ⟨j, v, me, h1, h2, h3, h4, h5⟩

theorem hMapUpdate_sound (tys : TysOk P cx) {t : TypeId} {x ix y : Operand} (s : St cx base w.heap μ h) (r : RelE w.heap μ mask e a.tmps) (ho : o.op = .mapUpdate t x ix y) {v : T}
    (hh : hMapUpdate t x ix y cx mask e h = some (.val v h')) : Done cx base w μ h.size ((execOp a.eval o).run P w) v h' := by
  replace hh := bnd_eq_some.1 hh; obtain ⟨ty, hty, hh⟩ := hh
  obtain ⟨d, hd, hu⟩ := und_of (tys.ty _ _ hty)
  cases hut : ty.u <;> rw [hut] at hh <;> simp only [reduceCtorEq] at hh
  rename_i kt et
  have := und_map hu hut; subst this
  replace hh := bnd_eq_some.1 hh; obtain ⟨tk, htk, hh⟩ := hh
  replace hh := bnd_eq_some.1 hh; obtain ⟨p, hp, hh⟩ := hh
  replace hh := bnd_eq_some.1 hh; obtain ⟨k, hk, hh⟩ := hh
  replace hh := bnd_eq_some.1 hh; obtain ⟨q, hq, hh⟩ := hh
  replace hh := chk_eq_some.1 hh; obtain ⟨hko, hh⟩ := hh
  replace hh := chk_eq_some.1 hh; obtain ⟨hgood, hh⟩ := hh
  have hpm : ∃ b, p = .map b := by cases p <;> first | exact ⟨_, rfl⟩ | (simp at hh)
  obtain ⟨b, rfl⟩ := hpm
  simp only at hh
  replace hh := bnd_eq_some.1 hh; obtain ⟨bx, hbx, hh⟩ := hh
  obtain ⟨sz, ep, ver, ex, it, es⟩ := bx
  simp only at hh
  replace hh := chk_eq_some.1 hh; obtain ⟨hit, hh⟩ := hh
  replace hh := bnd_eq_some.1 hh; obtain ⟨rr, hrr, hh⟩ := hh
  simp only [normNat_eq, bnd_some] at hh
  obtain ⟨dk, hdk, huk⟩ := und_of (tys.ty _ _ htk)
  have hx := opnd_sound s r hp
  have hkv := opnd_sound s r hk
  have hqv := opnd_sound s r hq
  obtain ⟨L, i, e1, hb, hi⟩ := hx.inv_map
  obtain ⟨l0, x0, esM, m1, m2, m3⟩ := s.mapOf hb hbx hit (findAny_like hrr)
  simp only at x0 m2 m3
  have hM := MapOk.relM (L := L) m2 m3
  obtain ⟨hck, hsb, hfind⟩ := findAny_sound tys htk hko hkv hM hrr
  have hi := hi l0
  subst hi
  have hLlt := s.lt hb
  obtain ⟨yb, hyb1, hyb2⟩ := s.box b L hb
  rw [hbx] at hyb1; simp only [Option.some.injEq] at hyb1; subst hyb1
  have hset : ∀ ob : Obj, (setObj L.blk ob).run P w = .ok () { w with heap := w.heap.setIfInBounds L.blk ob } := fun ob => Go.MapKept.run_setObj_map (P := P) ob m1
  have fin : ∀ {es' : List T} {esM' : Array MapEntry}, h.put b ⟨sz, ep, ver.succ, ex, true, es'⟩ = some h' → esM'.size = es'.length →
      (∀ (i : Nat) x, es'[i]? = some x → ∃ k v me, x = .tuple [k, v] ∧ esM'[i]? = some me ∧ me.born = i ∧ RelV w.heap μ k me.key ∧ RelV w.heap μ v me.val) →
      (execOp a.eval o).run P w = .ok .skip { w with heap := w.heap.setIfInBounds L.blk (.map esM' esM'.size) } → v = .undef → Done cx base w μ h.size ((execOp a.eval o).run P w) v h' := by
    intro es' esM' hput hlen hrel hrun hv
    subst hv
    obtain ⟨k1, k2, k3⟩ := s.change (L' := L) (hp' := w.heap.setIfInBounds L.blk (.map esM' esM'.size)) hb hput (by simp) (by
      intro i hi hne; rw [Array.getElem?_setIfInBounds_ne (Ne.symm hne)]) (.inl rfl) (by
      intro hext
      refine ⟨hyb2.ep, hyb2.sz, fun k => by simp at k, fun _ => ⟨x0, .inr (.inl ⟨esM', by simp [hLlt], hlen, fun i x hx => ?_⟩)⟩⟩
      obtain ⟨k, v, me, g1, g2, g3, g4, g5⟩ := hrel i x hx
      exact ⟨k, v, me, g1, g2, g3, g4.ext hext, g5.ext hext⟩)
    exact ⟨Go.undef, _, _, .inr ⟨hrun, rfl⟩, .undef, k1, ⟨k2, rfl, rfl, rfl⟩, k3⟩
  rcases hfind with ⟨rfl, f1⟩ | ⟨j, u, me, rfl, f1, f2, f3, f4⟩
  · have hh : (bnd (appN es [.tuple [k, q]]) fun es' => bnd (h.put b ⟨sz, ep, ver.succ, ex, true, es'⟩) fun h' => some (Did.val .undef h')) = some (.val v h') := hh
    rw [appN_eq] at hh
    simp only [bnd_some] at hh
    replace hh := bnd_eq_some.1 hh; obtain ⟨h2, hput, hh⟩ := hh
    simp only [Option.some.injEq, Did.val.injEq] at hh
    obtain ⟨hv, rfl⟩ := hh
    refine fin (esM' := esM.push { key := a.eval ix, val := a.eval y, born := esM.size }) hput (by simp [m2]) (fun n z hz => ?_) ?_ hv.symm
    · by_cases hn : n < es.length
      · rw [List.getElem?_append_left hn] at hz
        obtain ⟨k, v, me, g1, g2, g3, g4, g5⟩ := m3 n z hz
        refine ⟨k, v, me, g1, ?_, g3, g4, g5⟩
        rw [Array.getElem?_push]
        have : n ≠ esM.size := by omega
        simp [this, g2]
      · rw [List.getElem?_append_right (by omega)] at hz
        have hn0 : n = es.length := by
          rcases Nat.eq_or_lt_of_le (Nat.le_of_not_lt hn) with h | h
          · exact h.symm
          · rw [List.getElem?_eq_none (by simp; omega)] at hz; simp at hz
        subst hn0
        simp at hz; subst hz
        exact ⟨k, q, { key := a.eval ix, val := a.eval y, born := esM.size }, rfl, by rw [← m2]; simp, m2, hkv, hqv⟩
    · have hfk := f1
      simp only [execOp, ho, Instr.mapUpdate, Sem.run_bind, run_underlying hd, Result.andThen_ok, e1, Go.MapKept.run_getObj_map (P := P) m1, hck, hfk, hset, Sem.run_pure]
      simp
  · have hh : (bnd (setNth es j (.tuple [k, q])) fun es' => bnd (h.put b ⟨sz, ep, ver.succ, ex, true, es'⟩) fun h' => some (Did.val .undef h')) = some (.val v h') := hh
    replace hh := bnd_eq_some.1 hh; obtain ⟨es', hes', hh⟩ := hh
    replace hh := bnd_eq_some.1 hh; obtain ⟨h2, hput, hh⟩ := hh
    simp only [Option.some.injEq, Did.val.injEq] at hh
    obtain ⟨hv, rfl⟩ := hh
    rw [setNth_eq] at hes'
    split at hes'
    · rename_i hj
      simp only [Option.some.injEq] at hes'; subst hes'
      have f2' : esM[j]? = some me := by simpa using f2
      refine fin (esM' := esM.modify j fun en => { en with key := a.eval ix, val := a.eval y }) hput (by simp [m2]) (fun n z hz => ?_) ?_ hv.symm
      · rw [Array.getElem?_modify]
        by_cases hn : j = n
        · subst hn
          rw [List.getElem?_set_self hj] at hz
          simp only [Option.some.injEq] at hz; subst hz
          obtain ⟨z0, hz0⟩ : ∃ z0, es[j]? = some z0 := ⟨es[j], by simp [hj]⟩
          obtain ⟨k0, v0, me0, g1, g2, g3, g4, g5⟩ := m3 j z0 hz0
          rw [f2'] at g2; simp only [Option.some.injEq] at g2; subst g2
          exact ⟨k, q, { me with key := a.eval ix, val := a.eval y }, rfl, by simp [f2'], g3, hkv, hqv⟩
        · rw [List.getElem?_set_ne hn] at hz
          obtain ⟨k, v, me, g1, g2, g3, g4, g5⟩ := m3 n z hz
          exact ⟨k, v, me, g1, by simp [hn, g2], g3, g4, g5⟩
      · have hfk := f1
        have hsame : Instr.sameBits 10000 me.key (a.eval ix) = true := by rw [f4]; exact hsb
        simp only [execOp, ho, Instr.mapUpdate, Sem.run_bind, run_underlying hd, Result.andThen_ok, e1, Go.MapKept.run_getObj_map (P := P) m1, hck, hfk, Instr.keyThatStays, f2', Option.map_some, Option.getD_some, hsame, if_true, Sem.run_pure, hset]
        simp
    · simp at hes'

/-! ### string(b) -/

theorem byteOf_eq {v : T} {c : Nat} (hh : byteOf v = some c) : v = .int .u8 (.ofNat c) ∧ c < 256 := by
  cases v with
  | int k n =>
    have hh : chk (kEq k .u8) (@Int.rec (fun _ => Option Nat) (fun c => chk (Nat.blt c 256) (some c)) (fun _ => none) n) = some c := hh
    obtain ⟨h1, hh2⟩ := chk_eq_some.1 hh
    rw [kEq_eq] at h1; subst h1
    cases n with
    | ofNat m =>
      have hh2 : chk (Nat.blt m 256) (some m) = some c := hh2
      obtain ⟨h2, hh3⟩ := chk_eq_some.1 hh2
      rw [Nat.blt_eq] at h2
      simp only [Option.some.injEq] at hh3; subst hh3
      exact ⟨rfl, h2⟩
    | negSucc m => simp at hh2
  | _ => simp [byteOf] at hh

theorem strT_sound (tys : TysOk P cx) {src dst : TypeId} {x : Operand} (s : St cx base w.heap μ h) (r : RelE w.heap μ mask e a.tmps) (ho : o.op = .convert src dst x) (hdst : P.underlying dst = some .string) {v : T}
    (hp : opnd cx mask e x = some p) (hv : strT cx h src p = some v) (hh : h' = h) : Done cx base w μ h.size ((execOp a.eval o).run P w) v h' := by
  subst hh
  replace hv := bnd_eq_some.1 hv; obtain ⟨ty, hty, hv⟩ := hv
  obtain ⟨d, hd, hu⟩ := und_of (tys.ty _ _ hty)
  cases hut : ty.u <;> rw [hut] at hv hu <;> simp only [reduceCtorEq] at hv
  rename_i el
  have := uOf_slice hu; subst this
  replace hv := bnd_eq_some.1 hv; obtain ⟨te, hte, hv⟩ := hv
  obtain ⟨de, hde, hue⟩ := und_of (tys.ty _ _ hte)
  cases hute : te.u <;> rw [hute] at hv hue <;> simp only [reduceCtorEq] at hv
  rename_i k
  replace hv := chk_eq_some.1 hv; obtain ⟨hk, hv⟩ := hv
  rw [kEq_eq] at hk; subst hk
  have := uOf_int hue; subst this
  replace hv := bnd_eq_some.1 hv; obtain ⟨es, hes, hv⟩ := hv
  replace hv := bnd_eq_some.1 hv; obtain ⟨bs, hbs, hv⟩ := hv
  replace hv := chk_eq_some.1 hv; obtain ⟨_, hv⟩ := hv
  simp only [Option.some.injEq] at hv; subst hv
  obtain ⟨sz, it⟩ := items_sound (P := P) s (opnd_sound s r hp) hes
  obtain ⟨ad, cap, news, e1, hcap, hL, hone, hcells⟩ := it.form
  obtain ⟨hlen, hby⟩ := mapOpt_eq_some.1 hbs
  have hees : es = bs.map fun c => T.int .u8 (.ofNat c) := by
    apply List.ext_getElem?
    intro j
    rw [List.getElem?_map]
    cases hj : es[j]? with
    | none =>
      have : bs[j]? = none := by
        rw [List.getElem?_eq_none_iff] at hj ⊢; omega
      rw [this]; rfl
    | some z =>
      obtain ⟨c, hc, hf⟩ := hby j z hj
      rw [hc, (byteOf_eq hf).1]; rfl
  have hb256 : ∀ c ∈ bs, c < 256 := by
    intro c hc
    obtain ⟨j, hj⟩ := List.mem_iff_getElem?.1 hc
    have hjl : j < es.length := by
      rw [hlen]
      rcases Nat.lt_or_ge j bs.length with y | y
      · exact y
      · rw [List.getElem?_eq_none y] at hj; simp at hj
    obtain ⟨c', hc', hf⟩ := hby j es[j] (by simp [hjl])
    rw [hj] at hc'; simp only [Option.some.injEq] at hc'; subst hc'
    exact (byteOf_eq hf).2
  have hrel : RelV w.heap μ (.str bs) (.string (bytesOf bs)) := .str bs hb256
  rw [hees, flat_ints] at hL
  have hnews : ∀ (j : Nat) c, bs[j]? = some c → news[j]? = some (.int .u8 (c : Int)) := by
    intro j c hj
    obtain ⟨u, hu1, hu2⟩ := hL.get (k := j) (v := .int .u8 (.ofNat c)) (by simp [hj])
    rw [hu1, hu2.inv_int]; rfl
  have hdone : (convert src dst (a.eval x)).run P w = .ok (.string (bytesOf bs)) w := by
    rw [e1]
    rcases hcells with ⟨rfl, hnil⟩ | ⟨y, rfl, hc⟩
    · have hb0 : bs = [] := by
        have := hlen; rw [hnil] at this; simp at this; exact List.eq_nil_of_length_eq_zero this.symm
      subst hb0
      rw [hnil]
      rw [run_convert_bytes_string w src dst el none _ cap hd hde hdst]
      simp [Conv.bytesToString]
      rfl
    · have hl : es.length = (bs.map UInt8.ofNat).length := by simp [hlen]
      rw [hl]
      have := run_convert_bytes_back (P := P) w src dst el y cap (bs.map UInt8.ofNat) hd hde hdst (by
        intro j hj
        simp only [List.length_map] at hj
        have hbj : bs[j]? = some bs[j] := by simp [hj]
        rw [hc j _ (hnews j _ hbj)]
        simp only [List.getElem_map]
        rw [toNat_ofNat_lt (hb256 _ (List.getElem_mem hj))])
      rw [this]
      rfl
  exact Done.pure s (by simp only [execOp, ho, Sem.run_bind, hdone, Result.andThen_ok, Sem.run_pure]) hrel
end
end Go.TI
