/- Reading, part 2: indices, lengths, slices of slices, conversions. -/
import Derived.Test.YtemkchpdcgkeiaaGreatDoorTiRead
namespace Go.TI
set_option linter.unusedSimpArgs false
set_option linter.unusedVariables false
section
variable {P : Program} {cx : Ctx} {base : Nat} {w : World} {μ : Mu} {h : H} {mask : Nat} {e : Env} {a : Act} {o : Oper} {hp : Array Obj}

theorem St.sz_of (s : St cx base hp μ h) {b : Nat} {L : Loc} {bx : Box} (hb : μ b = some L) (hg : h.get b = some bx) : bx.sz = L.sz ∧ bx.ep = L.ep := by
  obtain ⟨x, h1, h2⟩ := s.box b L hb
  rw [h1] at hg; simp at hg; subst hg
  exact ⟨h2.sz, h2.ep⟩

theorem flat_get {sz : Nat} {es : List T} (hu : ∀ v ∈ es, v.cells.length = sz) {i k : Nat} {v z : T} (hv : es[i]? = some v) (hz : v.cells[k]? = some z) : (flat es)[i * sz + k]? = some z := by
  have hi : i < es.length := by
    rcases Nat.lt_or_ge i es.length with y | y
    · exact y
    · rw [List.getElem?_eq_none y] at hv; simp at hv
  have hk : k < v.cells.length := by
    rcases Nat.lt_or_ge k v.cells.length with y | y
    · exact y
    · rw [List.getElem?_eq_none y] at hz; simp at hz
  have hd := flat_drop hu i
  have hvi : es[i] = v := by rw [List.getElem?_eq_getElem hi] at hv; simpa using hv
  rw [List.drop_eq_getElem_cons hi, hvi, flat_cons] at hd
  rw [← List.getElem?_drop, hd, List.getElem?_append_left hk]
  exact hz

theorem tree_elem {x : T} {es : List T} {blk off sz i : Nat} {arr : Array Value} {t : TypeId} {fz : Nat × Nat} {v : T} (hn : ¬ InMu μ blk) (hh : hp[blk]? = some (.cells arr t fz))
    (hu : ∀ v ∈ x :: es, v.cells.length = sz) (hs : off + (flat (x :: es)).length ≤ arr.size) (hc : ∀ v ∈ flat (x :: es), Shut v)
    (hr : ∀ (k : Nat) v, (flat (x :: es))[k]? = some v → RelV hp μ v (arr.getD (off + k) Go.undef)) (hv : (x :: es)[i]? = some v) :
    RelV hp μ (.tptr v.cells) (.pointer (some ⟨blk, off + i * sz, none⟩)) := by
  have hmem := List.mem_of_getElem? hv
  have hi : i < (x :: es).length := by
    rcases Nat.lt_or_ge i (x :: es).length with y | y
    · exact y
    · simp [List.getElem?_eq_none y] at hv
  have hfl := flat_length hu
  have hlen := hu v hmem
  refine .tptr v.cells blk (off + i * sz) arr t fz hn hh ?_ (fun z hz => hc z (List.mem_flatMap.2 ⟨v, hmem, hz⟩)) fun k z hz => ?_
  · rw [hlen]
    have : i * sz + sz ≤ (flat (x :: es)).length := by
      rw [hfl]
      calc i * sz + sz = (i + 1) * sz := by rw [Nat.succ_mul]
        _ ≤ (x :: es).length * sz := Nat.mul_le_mul_right _ hi
    omega
  · have := hr _ z (flat_get hu hv hz)
    rwa [← Nat.add_assoc] at this

theorem hIndexAddr_sound (tys : TysOk P cx) {t : TypeId} {x y : Operand} (s : St cx base w.heap μ h) (r : RelE w.heap μ mask e a.tmps) (ho : o.op = .indexAddr t x y) {v : T} {h' : H}
    (hh : hIndexAddr t x y cx mask e h = some (.val v h')) : Done cx base w μ h.size ((execOp a.eval o).run P w) v h' := by
  replace hh := bnd_eq_some.1 hh; obtain ⟨ty, hty, hh⟩ := hh
  replace hh := bnd_eq_some.1 hh; obtain ⟨p, hp, hh⟩ := hh
  replace hh := bnd_eq_some.1 hh; obtain ⟨q, hq, hh⟩ := hh
  replace hh := bnd_eq_some.1 hh; obtain ⟨i, hi, hh⟩ := hh
  obtain ⟨k, hk⟩ := toIdx_eq_some hi
  obtain ⟨d, hd, hu⟩ := und_of (tys.ty _ _ hty)
  have hx := opnd_sound s r hp
  have hy := (hk ▸ opnd_sound s r hq).inv_int
  cases hut : ty.u <;> rw [hut] at hh hu <;> simp at hh
  · rename_i el
    have := uOf_slice hu; subst this
    replace hh := bnd_eq_some.1 hh; obtain ⟨te, hte, hh⟩ := hh
    have hsz := (tys.ty _ _ hte).run_sizeOf w
    unfold idxSlice at hh
    cases p <;> simp at hh
    · rename_i es full
      replace hh := bnd_eq_some.1 hh; obtain ⟨z, hz, hh⟩ := hh
      replace hh := chk_eq_some.1 hh; obtain ⟨hl, hh⟩ := hh
      simp at hh; obtain ⟨rfl, rfl⟩ := hh
      have hl := Nat.eq_of_beq_eq_true hl
      cases es with
      | nil => simp at hz
      | cons x0 es =>
        obtain ⟨blk, off, cap, sz, arr, t', fz, e1, hn, hh', hl', hf, huu, hs, hc, hr⟩ := hx.inv_tree
        have hszz : sz = te.size := by rw [← huu z (List.mem_of_getElem? hz)]; exact hl
        have hlt : i < es.length + 1 := by
          rcases Nat.lt_or_ge i (x0 :: es).length with y | y
          · simpa using y
          · rw [List.getElem?_eq_none y] at hz; simp at hz
        have hlt' : ¬ ((es.length : Int) + 1 ≤ (i : Int)) := by omega
        refine Done.pure s ?_ (tree_elem hn hh' huu hs hc hr hz)
        rw [← add_none, hszz]
        have hno : ¬ es.length + 1 ≤ i := by omega
        simp [execOp, ho, Instr.indexAt, hy, asIntOf, run_underlying hd, e1, hsz, hno]
    · rename_i b ep o' l full
      replace hh := chk_eq_some.1 hh; obtain ⟨hl, hh⟩ := hh
      replace hh := bnd_eq_some.1 hh; obtain ⟨bx, hbx, hh⟩ := hh
      replace hh := chk_eq_some.1 hh; obtain ⟨h1, hh⟩ := hh
      replace hh := chk_eq_some.1 hh; obtain ⟨h2, hh⟩ := hh
      simp at hh; obtain ⟨rfl, rfl⟩ := hh
      rw [Nat.blt_eq] at hl
      have h1 := Nat.eq_of_beq_eq_true h1
      have h2 := Nat.eq_of_beq_eq_true h2
      obtain ⟨L, ad, cp, e1, hb, hep, hcp, hcur⟩ := hx.inv_arr
      obtain ⟨g1, g2⟩ := s.sz_of hb hbx
      obtain ⟨c1, c2, c3⟩ := hcur (by omega)
      have hne : cp ≠ 0 := by omega
      rw [c3 hne] at e1
      refine Done.pure (c := .pointer (some ⟨L.blk, (o' + i) * L.sz, none⟩)) s ?_ (.ptr b ep (o' + i) 0 L _ hb hep fun _ => by simp)
      have hno : ¬ l ≤ i := by omega
      have hadd : (⟨L.blk, o' * L.sz, none⟩ : Addr).add (i * te.size) = ⟨L.blk, (o' + i) * L.sz, none⟩ := by
        rw [add_none, ← h1, g1, Nat.add_mul]
      simp [execOp, ho, Instr.indexAt, hy, asIntOf, run_underlying hd, e1, hsz, hno, hadd]
  · rename_i n el
    have := uOf_array hu; subst this
    replace hh := bnd_eq_some.1 hh; obtain ⟨te, hte, hh⟩ := hh
    have hsz := (tys.ty _ _ hte).run_sizeOf w
    unfold idxArray at hh
    replace hh := chk_eq_some.1 hh; obtain ⟨hl, hh⟩ := hh
    rw [Nat.blt_eq] at hl
    have hno : ¬ n ≤ i := by omega
    have hrun : ∀ ad : Addr, a.eval x = .pointer (some ad) → (execOp a.eval o).run P w = .ok (.value (.pointer (some (ad.add (i * te.size))))) w := by
      intro ad hq
      simp [execOp, ho, Instr.indexAt, hy, asIntOf, run_underlying hd, hq, Instr.sureAddr, hsz, hno]
    cases p <;> simp at hh
    · rename_i b ep i0 j
      replace hh := bnd_eq_some.1 hh; obtain ⟨bx, hbx, hh⟩ := hh
      obtain ⟨L, ad, hq', hb, hep, ha⟩ := hx.inv_ptr
      obtain ⟨g1, g2⟩ := s.sz_of hb hbx
      cases hbs : Nat.beq bx.sz te.size with
      | false =>
        rw [hbs] at hh
        have hh : some (Did.val (T.ptr b ep i0 (j + i * te.size)) h) = some (.val v h') := hh
        simp only [Option.some.injEq, Did.val.injEq] at hh
        obtain ⟨rfl, rfl⟩ := hh
        refine Done.pure s (hrun ad hq') (.ptr b ep i0 (j + i * te.size) L _ hb hep fun he => ?_)
        rw [ha he, add_none, Nat.add_assoc]
      | true =>
        rw [hbs] at hh
        have hh : chk (Nat.beq j 0) (some (Did.val (T.ptr b ep (i0 + i) 0) h)) = some (.val v h') := hh
        replace hh := chk_eq_some.1 hh; obtain ⟨hj, hh⟩ := hh
        have hj := Nat.eq_of_beq_eq_true hj
        subst hj
        simp only [Option.some.injEq, Did.val.injEq] at hh
        obtain ⟨rfl, rfl⟩ := hh
        have hbs := Nat.eq_of_beq_eq_true hbs
        refine Done.pure s (hrun ad hq') (.ptr b ep (i0 + i) 0 L _ hb hep fun he => ?_)
        rw [ha he, add_none, ← hbs, g1, Nat.add_mul]
        simp
    · rename_i cells
      replace hh := bnd_eq_some.1 hh; obtain ⟨cs, hdr, hh⟩ := hh
      simp at hh
      obtain ⟨rfl, rfl⟩ := hh
      obtain ⟨blk, off, arr, t', fz, hq', hn, hh', hs, hsc, hr⟩ := hx.inv_tptr
      rw [dropN_eq] at hdr
      split at hdr
      · rename_i hle
        simp at hdr; subst hdr
        refine Done.pure s (hrun _ hq') ?_
        rw [add_none]
        refine .tptr _ blk (off + i * te.size) arr t' fz hn hh' (by simp; omega) (fun v hv => hsc v (List.mem_of_mem_drop hv)) fun k v hv => ?_
        rw [List.getElem?_drop] at hv
        have := hr _ v hv
        rwa [← Nat.add_assoc] at this
      · simp at hdr
end
end Go.TI
