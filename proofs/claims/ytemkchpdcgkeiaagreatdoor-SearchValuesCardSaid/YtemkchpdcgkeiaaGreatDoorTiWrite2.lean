/- Operations that make memory: variables, built values, made slices. -/
import Derived.Test.YtemkchpdcgkeiaaGreatDoorTiWrite
import Derived.Great.FillDense
set_option linter.unusedVariables false
namespace Go.TI
set_option linter.unusedSimpArgs false
set_option linter.unusedVariables false
section
variable {P : Program} {cx : Ctx} {base : Nat} {w : World} {μ : Mu} {h h' : H} {mask : Nat} {e : Env} {a : Act} {o : Oper} {hp hp' : Array Obj}

theorem valNew_eq_some {x : Option (T × H)} {v : T} {h' : H} : valNew x = some (.val v h') ↔ x = some (v, h') := by
  unfold valNew
  cases x with
  | none => simp
  | some r => obtain ⟨v', h''⟩ := r; simp

/-- A new row is a new box's. -/
theorem new_box (s : St cx base w.heap μ h) (t : TypeId) {arr : Array Value} {cap sz : Nat} {ex : Bool} {es : List T} (harr : arr.size = cap * sz) (hroom : es.length ≤ cap) (hex : ex = true → cap = es.length)
    (hu : ∀ v ∈ es, v.cells.length = sz) (hsc : ∀ v ∈ flat es, v.scalar = true) (hL : RelL w.heap μ (flat es) (arr.toList.take (flat es).length)) :
    ∃ μ', St cx base (w.heap.push (.cells arr t)) μ' (h.cons (newBox sz ex es)) ∧ ExtW w μ { w with heap := w.heap.push (.cells arr t) } μ' ∧ Dom μ μ' h.size (h.cons (newBox sz ex es)).size ∧
      μ' h.size = some ⟨0, w.heap.size, cap, sz⟩ := by
  obtain ⟨h1, h2, h3⟩ := s.new (.cells arr t) ⟨0, w.heap.size, cap, sz⟩ (newBox sz ex es) rfl (by
    intro hext
    refine ⟨rfl, rfl, fun _ => ⟨⟨arr, t, by simp, harr, hL.ext hext⟩, hroom, hex, hu, hsc⟩, fun k => by simp [newBox] at k⟩)
  exact ⟨_, h1, ⟨h2, rfl, rfl, rfl⟩, h3, setMu_same _ _ _⟩

theorem scalar_cells {v : T} (h : v.scalar = true) : v.cells = [v] := by
  cases v <;> first | rfl | (simp [T.scalar] at h)

theorem flat_scalars {l : List T} (h : ∀ v ∈ l, v.scalar = true) : flat l = l := by
  induction l with
  | nil => rfl
  | cons v l ih =>
    have h1 := scalar_cells (h v (by simp))
    have h2 := ih fun x hx => h x (by simp [hx])
    unfold flat at h2 ⊢
    rw [List.flatMap_cons, h1, h2]
    rfl

theorem hAlloc_sound (tys : TysOk P cx) {t : TypeId} (s : St cx base w.heap μ h) (ho : o.op = .alloc t) {v : T}
    (hh : hAlloc t cx mask e h = some (.val v h')) : Done cx base w μ h.size ((execOp a.eval o).run P w) v h' := by
  replace hh := bnd_eq_some.1 hh; obtain ⟨ty, hty, hh⟩ := hh
  obtain ⟨z, hz, _, hzL, hzs, hzl, hzc, hzg, hzz⟩ := (tys.ty _ _ hty).zero w
  cases hbs : isBytes cx ty with
  | false =>
    rw [hbs] at hh
    have hh : valNew (h.new (fun b => T.ptr b 0 0 0) (newBox ty.size true [ty.zeroT])) = some (.val v h') := hh
    rw [valNew_eq_some, H.new_cons] at hh
    simp only [Option.some.injEq, Prod.mk.injEq] at hh
    obtain ⟨rfl, rfl⟩ := hh
    obtain ⟨μ', k1, k2, k3, k4⟩ := new_box s t (arr := z.cells) (cap := 1) (sz := ty.size) (ex := true) (es := [ty.zeroT]) (by omega) (by simp) (by simp)
      (by intro x hx; simp at hx; subst hx; rw [hzc]; exact hzl) (by intro x hx; simp [flat] at hx; rw [hzc] at hx; exact hzs x hx)
      (by
        have : flat [ty.zeroT] = ty.zero := by simp [flat, hzc]
        rw [this]
        have hl : z.cells.toList.take ty.zero.length = z.cells.toList := by rw [List.take_of_length_le]; simp; omega
        rw [hl]; exact hzL _ _)
    refine ⟨.pointer (some ⟨w.heap.size, 0, none⟩), _, μ', .inl ?_, .ptr _ 0 0 0 _ _ k4 (Nat.le_refl _) (fun _ => by simp), k1, k2, k3⟩
    simp [execOp, ho, Instr.alloc, hz, newVar, newRow]
  | true =>
    rw [hbs] at hh
    have hh : valNew (h.new (fun b => T.ptr b 0 0 0) (newBox 1 true ty.zero)) = some (.val v h') := hh
    rw [valNew_eq_some, H.new_cons] at hh
    simp only [Option.some.injEq, Prod.mk.injEq] at hh
    obtain ⟨rfl, rfl⟩ := hh
    obtain ⟨μ', k1, k2, k3, k4⟩ := new_box s t (arr := z.cells) (cap := ty.zero.length) (sz := 1) (ex := true) (es := ty.zero) (by omega) (Nat.le_refl _) (fun _ => rfl)
      (by intro x hx; rw [scalar_cells (hzs x hx)]; rfl) (by rw [flat_scalars hzs]; exact hzs)
      (by
        rw [flat_scalars hzs]
        have hl : z.cells.toList.take ty.zero.length = z.cells.toList := by rw [List.take_of_length_le]; simp; omega
        rw [hl]; exact hzL _ _)
    refine ⟨.pointer (some ⟨w.heap.size, 0, none⟩), _, μ', .inl ?_, .ptr _ 0 0 0 _ _ k4 (Nat.le_refl _) (fun _ => by simp), k1, k2, k3⟩
    simp [execOp, ho, Instr.alloc, hz, newVar, newRow]

theorem hBox_sound {t : TypeId} {x : Operand} (s : St cx base w.heap μ h) (r : RelE w.heap μ mask e a.tmps) (ho : o.op = .box t x) {v : T}
    (hh : hBox x cx mask e h = some (.val v h')) : Done cx base w μ h.size ((execOp a.eval o).run P w) v h' := by
  replace hh := bnd_eq_some.1 hh; obtain ⟨p, hp, hh⟩ := hh
  replace hh := chk_eq_some.1 hh; obtain ⟨hg, hh⟩ := hh
  rw [valNew_eq_some, H.new_cons] at hh
  simp only [Option.some.injEq, Prod.mk.injEq] at hh
  obtain ⟨rfl, rfl⟩ := hh
  obtain ⟨hL, hsc, _⟩ := (opnd_sound s r hp).cells hg
  have hlen := hL.1
  obtain ⟨μ', k1, k2, k3, k4⟩ := new_box s t (arr := (a.eval x).cells) (cap := 1) (sz := p.cells.length) (ex := true) (es := [p]) (by simp at hlen; omega) (by simp) (by simp)
    (by intro x hx; simp at hx; subst hx; rfl) (by intro x hx; simp [flat] at hx; exact hsc x hx)
    (by
      have : flat [p] = p.cells := by simp [flat]
      rw [this, hlen, List.take_length]; exact hL)
  rw [lenN_eq]
  refine ⟨.pointer (some ⟨w.heap.size, 0, none⟩), _, μ', .inl ?_, .ptr _ 0 0 0 _ _ k4 (Nat.le_refl _) (fun _ => by simp), k1, k2, k3⟩
  simp [execOp, ho, Instr.box, newVar, newRow]

/-! ### built values -/

theorem over_eq (cs vs : List T) : over cs vs = if vs.length ≤ cs.length then some (vs ++ cs.drop vs.length) else none := by
  induction vs generalizing cs with
  | nil => rfl
  | cons v vs ih => cases cs with
    | nil => rfl
    | cons c cs =>
      show (bnd (over cs vs) fun t => some (v :: t)) = _
      rw [ih]
      by_cases hle : vs.length ≤ cs.length <;> simp [hle]

theorem splice_eq (cs : List T) (j : Nat) (vs : List T) : splice cs j vs = if j + vs.length ≤ cs.length then some (cs.take j ++ vs ++ cs.drop (j + vs.length)) else none := by
  induction j generalizing cs with
  | zero => show over cs vs = _; rw [over_eq]; simp
  | succ j ih => cases cs with
    | nil => show none = _; simp
    | cons c cs =>
      show (bnd (splice cs j vs) fun t => some (c :: t)) = _
      rw [ih]
      have e1 : j + 1 + vs.length = (j + vs.length) + 1 := by omega
      by_cases hle : j + vs.length ≤ cs.length
      · rw [if_pos hle, if_pos (by simp; omega), e1]; simp
      · rw [if_neg hle, if_neg (by simp; omega)]; rfl

theorem splice_eq_some {cs vs r : List T} {j : Nat} (hh : splice cs j vs = some r) : j + vs.length ≤ cs.length ∧ r = cs.take j ++ vs ++ cs.drop (j + vs.length) := by
  rw [splice_eq] at hh
  split at hh
  · simp at hh; exact ⟨by assumption, by rw [← hh]; simp⟩
  · simp at hh

theorem mem_splice {cs vs r : List T} {j : Nat} (hh : splice cs j vs = some r) {Q : T → Prop} (h1 : ∀ v ∈ cs, Q v) (h2 : ∀ v ∈ vs, Q v) : ∀ v ∈ r, Q v := by
  obtain ⟨_, rfl⟩ := splice_eq_some hh
  intro v hv
  rcases List.mem_append.1 hv with hv | hv
  · rcases List.mem_append.1 hv with hv | hv
    · exact h1 v (List.mem_of_mem_take hv)
    · exact h2 v hv
  · exact h1 v (List.mem_of_mem_drop hv)

/-- One step of the model's 'fill'. -/
theorem fill_step {cells : Array Value} {c : Value} {off : Nat} (hle : off + c.cells.size ≤ cells.size) :
    (c.cells.zipIdx.foldl (fun cs (x : Value × Nat) => cs.setIfInBounds (off + x.2) x.1) cells).toList = cells.toList.take off ++ c.cells.toList ++ cells.toList.drop (off + c.cells.size) := by
  have hz : c.cells.zipIdx.foldl (fun cs (x : Value × Nat) => cs.setIfInBounds (off + x.2) x.1) cells = (c.cells.toList.zipIdx 0).foldl (fun cs (x : Value × Nat) => cs.setIfInBounds (off + x.2) x.1) cells := by
    rw [← Array.foldl_toList, Array.toList_zipIdx]
  rw [hz]
  obtain ⟨h1, h2⟩ := Great.foldl_set off c.cells.toList 0 cells
  apply List.ext_getElem?
  intro k
  have := h2 k
  rw [← Array.getElem?_toList] at this
  rw [this]
  simp only [Nat.add_zero, Array.length_toList]
  rcases Nat.lt_or_ge k off with hk | hk
  · rw [if_neg (by omega), List.append_assoc, List.getElem?_append_left (by simp; omega), List.getElem?_take, if_pos hk]
    simp
  · rcases Nat.lt_or_ge k (off + c.cells.size) with hk2 | hk2
    · rw [if_pos ⟨hk, hk2, by omega⟩, List.append_assoc, List.getElem?_append_right (by simp; omega)]
      have : (cells.toList.take off).length = off := by simp; omega
      rw [this, List.getElem?_append_left (by simp; omega)]
    · rw [if_neg (by omega), List.append_assoc, List.getElem?_append_right (by simp; omega)]
      have : (cells.toList.take off).length = off := by simp; omega
      rw [this, List.getElem?_append_right (by simp; omega), List.getElem?_drop]
      simp only [Array.length_toList, Array.getElem?_toList]
      congr 1; omega

theorem fillCells_cons (place : Nat → Option (Nat × Nat)) (p : Nat × T) (ps : List (Nat × T)) (cs : List T) :
    fillCells place (p :: ps) cs = bnd (place p.1) fun q => chk (Nat.beq (lenN p.2.cells) q.2) (bnd (splice cs q.1 p.2.cells) fun cs' => fillCells place ps cs') := rfl

/-- Parts: numbers with values that stand for values. -/
def RelP (hp : Array Obj) (μ : Mu) (ps : List (Nat × T)) (qs : List (Nat × Value)) : Prop :=
  ps.length = qs.length ∧ ∀ (k : Nat) i x, ps[k]? = some (i, x) → ∃ c, qs[k]? = some (i, c) ∧ RelV hp μ x c ∧ x.good = true

theorem RelP.uncons {p : Nat × T} {ps : List (Nat × T)} {qs : List (Nat × Value)} (h : RelP hp μ (p :: ps) qs) : ∃ c qs', qs = (p.1, c) :: qs' ∧ RelV hp μ p.2 c ∧ p.2.good = true ∧ RelP hp μ ps qs' := by
  obtain ⟨hl, hk⟩ := h
  cases qs with
  | nil => simp at hl
  | cons q qs =>
    obtain ⟨c, hc, hr, hg⟩ := hk 0 p.1 p.2 (by simp)
    simp at hc; subst hc
    exact ⟨c, qs, rfl, hr, hg, by simpa using hl, fun k i x hx => by simpa using hk (k + 1) i x (by simpa using hx)⟩

theorem partsOf_sound (s : St cx base w.heap μ h) (r : RelE w.heap μ mask e a.tmps) {l : List (Nat × Operand)} {ps : List (Nat × T)} (hh : partsOf cx mask e l = some ps) :
    RelP w.heap μ ps (l.map fun p => (p.1, a.eval p.2)) := by
  unfold partsOf at hh
  obtain ⟨hl, hk⟩ := mapOpt_eq_some.1 hh
  refine ⟨by simp [hl], fun k i x hx => ?_⟩
  have hlt : k < l.length := by
    rcases Nat.lt_or_ge k ps.length with y | y
    · omega
    · rw [List.getElem?_eq_none y] at hx; simp at hx
  obtain ⟨y, hy, hf⟩ := hk k l[k] (by simp [hlt])
  rw [hx] at hy; simp at hy; subst hy
  rcases hlk : l[k] with ⟨j, op⟩
  rw [hlk] at hf
  have hf : (bnd (opnd cx mask e op) fun x => chk x.good (some (j, x))) = some (i, x) := hf
  obtain ⟨z, hz, hf⟩ := bnd_eq_some.1 hf
  obtain ⟨hg, hf⟩ := chk_eq_some.1 hf
  simp at hf
  obtain ⟨rfl, rfl⟩ := hf
  exact ⟨a.eval op, by simp [hlt, hlk], opnd_sound s r hz, hg⟩

theorem fillCells_sound {place place' : Nat → Option (Nat × Nat)} (hpl : ∀ i q, place i = some q → place' i = some q) : ∀ (ps : List (Nat × T)) (qs : List (Nat × Value)) (cs r : List T) (cells : Array Value),
    RelP hp μ ps qs → RelL hp μ cs cells.toList → (∀ v ∈ cs, v.scalar = true) → fillCells place ps cs = some r →
    ∃ out, Instr.fill place' cells qs = some out ∧ RelL hp μ r out.toList ∧ (∀ v ∈ r, v.scalar = true) ∧ out.size = cells.size := by
  intro ps
  induction ps with
  | nil =>
    intro qs cs r cells hp hL hs hh
    have : qs = [] := List.eq_nil_of_length_eq_zero hp.1.symm
    subst this
    have : r = cs := by simpa [fillCells] using hh.symm
    subst this
    exact ⟨cells, rfl, hL, hs, rfl⟩
  | cons p ps ih =>
    intro qs cs r cells hP hL hs hh
    obtain ⟨c, qs', rfl, hr, hg, hP'⟩ := hP.uncons
    rw [fillCells_cons] at hh
    obtain ⟨q, hq, hh⟩ := bnd_eq_some.1 hh
    obtain ⟨hl, hh⟩ := chk_eq_some.1 hh
    obtain ⟨cs', hsp, hh⟩ := bnd_eq_some.1 hh
    obtain ⟨cL, csc, _⟩ := hr.cells hg
    have hlen := Nat.eq_of_beq_eq_true hl
    rw [lenN_eq] at hlen
    obtain ⟨hle, hcs'⟩ := splice_eq_some hsp
    have h1 := hL.1
    have h2 := cL.1
    simp only [Array.length_toList] at h1 h2
    have hle' : q.1 + c.cells.size ≤ cells.size := by omega
    have hst := fill_step (cells := cells) (c := c) hle'
    have hL' : RelL hp μ cs' (c.cells.zipIdx.foldl (fun cs (x : Value × Nat) => cs.setIfInBounds (q.1 + x.2) x.1) cells).toList := by
      rw [hst, hcs', ← h2]
      exact ((hL.take q.1).append cL).append (by rw [h2]; exact hL.drop _)
    obtain ⟨out, o1, o2, o3, o4⟩ := ih qs' cs' r _ hP' hL' (mem_splice hsp hs csc) hh
    refine ⟨out, ?_, o2, o3, ?_⟩
    · simp only [Instr.fill, hpl _ _ hq]
      have hc : ¬ (c.cells.size ≠ q.2 || decide (q.1 + c.cells.size > cells.size)) = true := by simp; omega
      rw [if_neg hc]
      exact o1
    · rw [o4]
      have := congrArg List.length hst
      simp only [Array.length_toList, List.length_append, List.length_take, List.length_drop] at this
      omega
end
end Go.TI
