/- Operations that write: stores, iterators, append, copy, clear. -/
import Derived.Test.YtemkchpdcgkeiaaGreatDoorTiWrite3
set_option linter.unusedVariables false
namespace Go.TI
set_option linter.unusedSimpArgs false
set_option linter.unusedVariables false
section
variable {P : Program} {cx : Ctx} {base : Nat} {w : World} {μ : Mu} {h h' : H} {mask : Nat} {e : Env} {a : Act} {o : Oper} {hp hp' : Array Obj}

theorem St.row_of (s : St cx base hp μ h) {b : Nat} {L : Loc} {x : Box} (hb : μ b = some L) (hg : h.get b = some x) (hi : x.it = false) : CellsOk hp μ L x.exact x.elems ∧ x.ep = L.ep ∧ x.sz = L.sz := by
  obtain ⟨y, h1, h2⟩ := s.box b L hb
  rw [hg] at h1; simp at h1; subst h1
  exact ⟨h2.plain hi, h2.ep, h2.sz⟩

/-- A box's row is written in place. -/
theorem write_row (s : St cx base w.heap μ h) {b : Nat} {L : Loc} {x : Box} (hb : μ b = some L) (hg : h.get b = some x) (hi : x.it = false) {arr arr' : Array Value} {t : TypeId} (hrow : w.heap[L.blk]? = some (.cells arr t (0, 0)))
    {ep' ver' : Nat} {ex' : Bool} {es' : List T} (hep : ep' = L.ep ∨ ep' = L.ep + 1) (hput : h.put b ⟨x.sz, ep', ver', ex', false, es'⟩ = some h') (hsz : arr'.size = L.cap * L.sz) (hroom : es'.length ≤ L.cap) (hex : ex' = true → L.cap = es'.length)
    (hu : ∀ v ∈ es', v.cells.length = L.sz) (hsc : ∀ v ∈ flat es', v.scalar = true) (hL : RelL w.heap μ (flat es') (arr'.toList.take (flat es').length)) :
    ∃ μ', St cx base (w.setRow L.blk arr').heap μ' h' ∧ ExtW w μ (w.setRow L.blk arr') μ' ∧ Dom μ μ' h.size h'.size ∧ μ' b = some ⟨ep', L.blk, L.cap, L.sz⟩ := by
  obtain ⟨c, hxe, hxs⟩ := s.row_of hb hg hi
  have hother : ∀ i, i < w.heap.size → i ≠ L.blk → (w.setRow L.blk arr').heap[i]? = w.heap[i]? := fun i _ hne => setRow_other w L.blk i arr' hne
  have hsame := setRow_heap w L.blk arr arr' t (0, 0) hrow
  obtain ⟨k1, k2, k3⟩ := s.change (L' := ⟨ep', L.blk, L.cap, L.sz⟩) hb hput (by simp) hother (by
    rcases hep with rfl | rfl
    · exact .inl rfl
    · exact .inr ⟨by simp, .inl rfl⟩) (by
    intro hext
    refine ⟨rfl, hxs, fun _ => ⟨⟨arr', t, hsame, hsz, hL.ext hext⟩, hroom, hex, hu, hsc⟩, fun k => by simp at k⟩)
  exact ⟨_, k1, ⟨k2, rfl, rfl, rfl⟩, k3, setMu_same _ _ _⟩

theorem take_splice {α : Type} (l vs : List α) {o N : Nat} (h1 : o + vs.length ≤ N) (h2 : N ≤ l.length) : (l.take o ++ vs ++ l.drop (o + vs.length)).take N = (l.take N).take o ++ vs ++ (l.take N).drop (o + vs.length) := by
  rw [List.take_append, List.take_append]
  have e1 : (l.take o).take N = (l.take N).take o := by rw [List.take_take, List.take_take, Nat.min_comm]
  have e2 : (l.take o).length = o := by simp; omega
  have e3 : (l.take o ++ vs).length = o + vs.length := by simp; omega
  rw [e1, e2, e3]
  congr 1
  · congr 1
    rw [List.take_of_length_le (by omega)]
  · rw [List.drop_take]

theorem setIn_eq {x x' : T} {j : Nat} {vs : List T} (hvs : ∀ v ∈ vs, v.scalar = true) (hh : setIn x j vs = some x') :
    j + vs.length ≤ x.cells.length ∧ x'.cells = x.cells.take j ++ vs ++ x.cells.drop (j + vs.length) := by
  by_cases hagg : ∃ cs, x = .agg cs
  · obtain ⟨cs, rfl⟩ := hagg
    obtain ⟨r, h1, h2⟩ := bnd_eq_some.1 hh
    simp at h2; subst h2
    exact splice_eq_some h1
  · have hone : x.cells = [x] := by cases x <;> first | rfl | exact absurd ⟨_, rfl⟩ hagg
    have hkey : j = 0 ∧ vs = [x'] := by
      unfold setIn at hh
      cases x <;> first | (exact absurd ⟨_, rfl⟩ hagg) | (simp only [] at hh; split at hh <;> simp at hh; subst hh; exact ⟨rfl, rfl⟩)
    obtain ⟨rfl, rfl⟩ := hkey
    have hs := hvs x' (by simp)
    have : x'.cells = [x'] := by cases x' <;> simp [T.scalar] at hs <;> rfl
    rw [hone, this]
    simp

theorem hStore_sound (tys : TysOk P cx) {t : TypeId} {x y : Operand} (s : St cx base w.heap μ h) (r : RelE w.heap μ mask e a.tmps) (ho : o.op = .store t x y) {v : T}
    (hh : hStore t x y cx mask e h = some (.val v h')) : Done cx base w μ h.size ((execOp a.eval o).run P w) v h' := by
  replace hh := bnd_eq_some.1 hh; obtain ⟨ty, hty, hh⟩ := hh
  replace hh := bnd_eq_some.1 hh; obtain ⟨p, hp, hh⟩ := hh
  replace hh := bnd_eq_some.1 hh; obtain ⟨q, hq, hh⟩ := hh
  replace hh := chk_eq_some.1 hh; obtain ⟨hgood, hh⟩ := hh
  replace hh := bnd_eq_some.1 hh; obtain ⟨h2, hst, hh⟩ := hh
  simp at hh; obtain ⟨rfl, rfl⟩ := hh
  have hx := opnd_sound s r hp
  obtain ⟨qL, qs, q1⟩ := (opnd_sound s r hq).cells hgood
  have hptr : ∃ b ep i j, p = .ptr b ep i j := by
    unfold H.store at hst
    cases p <;> first | (exact ⟨_, _, _, _, rfl⟩) | (simp at hst)
  obtain ⟨b, ep, i, j, rfl⟩ := hptr
  unfold H.store at hst
  replace hst := chk_eq_some.1 hst; obtain ⟨hlen, hst⟩ := hst
  replace hst := bnd_eq_some.1 hst; obtain ⟨bx, hbx, hst⟩ := hst
  obtain ⟨sz, ep', ver, ex, it, elems⟩ := bx
  have hst : chk (Nat.beq ep' ep) (@Bool.rec (fun _ => Option H) (bnd (nthD elems i) fun e0 => bnd (setIn e0 j q.cells) fun e1 => bnd (setNth elems i e1) fun es => bnd (normNat (Nat.succ ver)) fun ver' => h.put b ⟨sz, ep', ver', ex, false, es⟩) none it) = some h2 := hst
  replace hst := chk_eq_some.1 hst; obtain ⟨hep, hst⟩ := hst
  cases it with
  | true => simp at hst
  | false =>
    have hst : (bnd (nthD elems i) fun e0 => bnd (setIn e0 j q.cells) fun e1 => bnd (setNth elems i e1) fun es => bnd (normNat (Nat.succ ver)) fun ver' => h.put b ⟨sz, ep', ver', ex, false, es⟩) = some h2 := hst
    replace hst := bnd_eq_some.1 hst; obtain ⟨e0, he0, hst⟩ := hst
    replace hst := bnd_eq_some.1 hst; obtain ⟨e1, he1, hst⟩ := hst
    replace hst := bnd_eq_some.1 hst; obtain ⟨es, hes, hst⟩ := hst
    simp only [normNat_eq, bnd_some] at hst
    rw [nthD_eq] at he0
    have hep := Nat.eq_of_beq_eq_true hep
    have hlen := Nat.eq_of_beq_eq_true hlen
    rw [lenN_eq] at hlen
    rw [setNth_eq] at hes
    split at hes
    · rename_i hi
      simp at hes; subst hes
      obtain ⟨L, ad, hq', hb, _, ha⟩ := hx.inv_ptr
      obtain ⟨c, g1, g2⟩ := s.row_of hb hbx rfl
      simp only [] at g1 g2
      have hadr := ha (by omega)
      subst hadr
      obtain ⟨arr, t', hrow, hsize, hL⟩ := c.row
      have hu := c.size
      simp only [] at hu hL
      have hmem : e0 ∈ elems := List.mem_of_getElem? he0
      obtain ⟨hle, hcells⟩ := setIn_eq qs he1
      have he0l := hu e0 hmem
      have he0g : elems[i] = e0 := by rw [List.getElem?_eq_getElem hi] at he0; simpa using he0
      -- the flat row
      have hfl := flat_length hu
      have hflat : flat (elems.set i e1) = (flat elems).take (i * L.sz + j) ++ q.cells ++ (flat elems).drop (i * L.sz + j + q.cells.length) := by
        rw [flat_set hu hi, hcells]
        have hd : (flat elems).drop (i * L.sz) = e0.cells ++ (flat elems).drop (i * L.sz + L.sz) := by
          rw [← Nat.succ_mul, flat_drop hu, flat_drop hu, List.drop_eq_getElem_cons hi, he0g, flat_cons]
        have ht : (flat elems).take (i * L.sz + j) = (flat elems).take (i * L.sz) ++ e0.cells.take j := by
          rw [List.take_add, hd, List.take_append_of_le_length (by omega)]
        have hdd : (flat elems).drop (i * L.sz + j + q.cells.length) = e0.cells.drop (j + q.cells.length) ++ (flat elems).drop (i * L.sz + L.sz) := by
          rw [Nat.add_assoc, ← List.drop_drop, hd, List.drop_append_of_le_length hle]
        rw [ht, hdd]
        simp [List.append_assoc]
      have hbound : i * L.sz + j + q.cells.length ≤ (flat elems).length := by
        rw [hfl]
        have : (i + 1) * L.sz ≤ elems.length * L.sz := Nat.mul_le_mul_right _ hi
        rw [Nat.succ_mul] at this
        omega
      have hNle : (flat elems).length ≤ arr.size := by
        rw [hfl, hsize]; exact Nat.mul_le_mul_right _ c.room
      have hql := qL.1
      have hu' : ∀ v ∈ elems.set i e1, v.cells.length = L.sz := by
        intro v hv
        rcases List.mem_or_eq_of_mem_set hv with k | rfl
        · exact hu v k
        · rw [hcells]; simp; omega
      have hsc' : ∀ v ∈ flat (elems.set i e1), v.scalar = true := by
        intro v hv
        rw [hflat] at hv
        rcases List.mem_append.1 hv with hv | hv
        · rcases List.mem_append.1 hv with hv | hv
          · exact c.scalar v (List.mem_of_mem_take hv)
          · exact qs v hv
        · exact c.scalar v (List.mem_of_mem_drop hv)
      have hfl' : (flat (elems.set i e1)).length = (flat elems).length := by
        rw [flat_length hu', hfl]; simp
      have hLa : RelL w.heap μ (flat (elems.set i e1)) ((arr.toList.take (i * L.sz + j) ++ (a.eval y).cells.toList ++ arr.toList.drop (i * L.sz + j + (a.eval y).cells.toList.length)).toArray.toList.take (flat (elems.set i e1)).length) := by
        rw [hfl', hflat]
        rw [List.toList_toArray, take_splice _ _ (by omega) (by simpa using hNle)]
        rw [← hql]
        exact ((hL.take _).append qL).append (hL.drop _)
      obtain ⟨μ', k1, k2, k3, k4⟩ := write_row s hb hbx rfl hrow (.inl g1) hst (arr' := (arr.toList.take (i * L.sz + j) ++ (a.eval y).cells.toList ++ arr.toList.drop (i * L.sz + j + (a.eval y).cells.toList.length)).toArray)
        (by simp only [List.size_toArray, List.length_append, List.length_take, List.length_drop, Array.length_toList] at hql ⊢; rw [← hsize]; omega) (by simpa using c.room) (by intro k; have := c.exact_ k; simpa using this) hu' hsc' hLa
      refine ⟨Go.undef, _, μ', .inr ⟨?_, rfl⟩, .undef, k1, k2, k3⟩
      have hrun := run_storeCells_at (P := P) L.blk (i * L.sz + j) t' (a.eval y).cells.toList 0 arr w hrow (by simp only [Nat.add_zero]; omega) q1
      simp only [Nat.add_zero] at hrun
      have hsze : (a.eval y).cells.size = ty.size := by rw [← hlen, hql]; simp
      simp only [execOp, ho, Instr.storeAt, Sem.run_bind, hq', Instr.sureAddr, Sem.run_pure, Result.andThen_ok, storeVar, (tys.ty _ _ hty).run_sizeOf, hsze, ne_eq, not_true, if_false, hrun]
    · simp at hes
end
end Go.TI
