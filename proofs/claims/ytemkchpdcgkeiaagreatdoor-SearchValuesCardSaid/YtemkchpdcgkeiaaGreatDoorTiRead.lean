/- Reading: loads, fields, indices, lengths, slices of slices. -/
import Derived.Test.YtemkchpdcgkeiaaGreatDoorTiEq
namespace Go.TI
set_option linter.unusedSimpArgs false
set_option linter.unusedVariables false
section
variable {P : Program} {cx : Ctx} {base : Nat} {w : World} {μ : Mu} {h : H} {mask : Nat} {e : Env} {a : Act} {o : Oper} {hp : Array Obj}

theorem add_none (blk off n : Nat) : (⟨blk, off, none⟩ : Addr).add n = ⟨blk, off + n, none⟩ := by
  unfold Addr.add; split <;> simp_all

theorem flat_cons (x : T) (es : List T) : flat (x :: es) = x.cells ++ flat es := by simp [flat]
theorem flat_append (a b : List T) : flat (a ++ b) = flat a ++ flat b := by simp [flat]

theorem flat_length {sz : Nat} {es : List T} (hu : ∀ v ∈ es, v.cells.length = sz) : (flat es).length = es.length * sz := by
  induction es with
  | nil => simp [flat]
  | cons x es ih =>
    rw [flat_cons, List.length_append, ih (fun v hv => hu v (by simp [hv])), hu x (by simp), List.length_cons, Nat.succ_mul]
    omega

theorem flat_drop {sz : Nat} {es : List T} (hu : ∀ v ∈ es, v.cells.length = sz) (i : Nat) : (flat es).drop (i * sz) = flat (es.drop i) := by
  induction i generalizing es with
  | zero => simp
  | succ i ih => cases es with
    | nil => simp [flat]
    | cons x es =>
      have hx := hu x (by simp)
      rw [flat_cons, Nat.succ_mul, Nat.add_comm, ← List.drop_drop]
      have : (x.cells ++ flat es).drop sz = flat es := by rw [← hx]; simp
      rw [this, ih (fun v hv => hu v (by simp [hv]))]
      rfl

theorem flat_take {sz : Nat} {es : List T} (hu : ∀ v ∈ es, v.cells.length = sz) (i : Nat) : (flat es).take (i * sz) = flat (es.take i) := by
  induction i generalizing es with
  | zero => simp [flat]
  | succ i ih => cases es with
    | nil => simp [flat]
    | cons x es =>
      have hx := hu x (by simp)
      rw [flat_cons, List.take_succ_cons, flat_cons, ← ih (fun v hv => hu v (by simp [hv])), Nat.succ_mul, List.take_append, hx]
      congr 1
      · rw [List.take_of_length_le (by omega)]
      · congr 1; omega

/-- The cells from an address on stand for a list. -/
structure RowAt (hp : Array Obj) (μ : Mu) (blk off : Nat) (cs : List T) : Prop where
  row : ∃ arr t fz, hp[blk]? = some (.cells arr t fz) ∧ off + cs.length ≤ arr.size ∧ ∀ (k : Nat) v, cs[k]? = some v → RelV hp μ v (arr.getD (off + k) Go.undef)
  scalar : ∀ v ∈ cs, v.scalar = true

theorem RowAt.cell {blk off : Nat} {cs : List T} (r : RowAt w.heap μ blk off cs) {k : Nat} {v : T} (hv : cs[k]? = some v) : ∃ c, w.cell? ⟨blk, off + k, none⟩ = some c ∧ RelV w.heap μ v c := by
  obtain ⟨arr, t, fz, h1, h2, h3⟩ := r.row
  have hk : k < cs.length := by
    rcases Nat.lt_or_ge k cs.length with x | x
    · exact x
    · simp [List.getElem?_eq_none x] at hv
  have hlt : off + k < arr.size := by omega
  refine ⟨arr[off + k], by simp [World.cell?, h1, hlt], ?_⟩
  have := h3 k v hv
  simpa [Array.getD_eq_getD_getElem?, hlt] using this

theorem RowAt.take {blk off : Nat} {cs : List T} (r : RowAt hp μ blk off cs) (n : Nat) : RowAt hp μ blk off (cs.take n) := by
  obtain ⟨arr, t, fz, h1, h2, h3⟩ := r.row
  refine ⟨⟨arr, t, fz, h1, by simp; omega, fun k v hv => h3 k v ?_⟩, fun v hv => r.scalar v (List.mem_of_mem_take hv)⟩
  rw [List.getElem?_take] at hv
  split at hv
  · exact hv
  · simp at hv

theorem RowAt.drop {blk off : Nat} {cs : List T} (r : RowAt hp μ blk off cs) (n : Nat) (hn : n ≤ cs.length) : RowAt hp μ blk (off + n) (cs.drop n) := by
  obtain ⟨arr, t, fz, h1, h2, h3⟩ := r.row
  refine ⟨⟨arr, t, fz, h1, by simp; omega, fun k v hv => ?_⟩, fun v hv => r.scalar v (List.mem_of_mem_drop hv)⟩
  rw [List.getElem?_drop] at hv
  have := h3 (n + k) v hv
  rwa [← Nat.add_assoc] at this

theorem RowAt.run_loadCells {blk off : Nat} {cs : List T} (r : RowAt w.heap μ blk off cs) : ∃ ds : List Value, (loadCells ⟨blk, off, none⟩ cs.length).run P w = .ok ds.toArray w ∧ RelL w.heap μ cs ds := by
  obtain ⟨arr, t, fz, h1, h2, h3⟩ := r.row
  refine ⟨(arr.toList.drop off).take cs.length, ?_, ?_⟩
  · have hl : ((arr.toList.drop off).take cs.length).length = cs.length := by simp; omega
    have := Go.run_loadCells_list (P := P) w ⟨blk, off, none⟩ ((arr.toList.drop off).take cs.length) (fun j v hj => by
      rw [add_none]
      rw [List.getElem?_take] at hj
      split at hj
      · rw [List.getElem?_drop] at hj
        simp only [World.cell?, h1]
        simpa using hj
      · simp at hj)
    rwa [hl] at this
  · refine ⟨by simp; omega, fun k v hv => ?_⟩
    have hk : k < cs.length := by
      rcases Nat.lt_or_ge k cs.length with x | x
      · exact x
      · simp [List.getElem?_eq_none x] at hv
    have := h3 k v hv
    have hlt : off + k < arr.size := by omega
    simpa [List.getD, List.getElem?_take, hk, Array.getD_eq_getD_getElem?, hlt] using this

theorem readAs_sound {t : TypeId} {ty : Ty} {blk off : Nat} {cs : List T} {v : T} (hty : TyOk P t ty) (r : RowAt w.heap μ blk off cs) (hh : readAs ty cs = some v) :
    ∃ c, (loadVar t ⟨blk, off, none⟩).run P w = .ok c w ∧ RelV w.heap μ v c := by
  unfold readAs at hh
  cases hb : ty.isAgg with
  | true =>
    rw [hb] at hh
    have hh : (bnd (takeN ty.size cs) fun r => some (T.agg r)) = some v := hh
    obtain ⟨q, h1, h2⟩ := bnd_eq_some.1 hh
    rw [takeN_eq] at h1
    split at h1
    · rename_i hle
      simp at h1 h2; subst h1; subst h2
      have rt := r.take ty.size
      obtain ⟨ds, hd, hL⟩ := RowAt.run_loadCells (P := P) rt
      have hlen : (cs.take ty.size).length = ty.size := by simp; omega
      rw [hlen] at hd
      refine ⟨.agg ds.toArray, ?_, RelV.aggOf (by simpa using hL) rt.scalar⟩
      simp [loadVar, hty.run_isAgg, hb, hty.run_sizeOf, hd]
    · simp at h1
  | false =>
    rw [hb] at hh
    have hh : nthD cs 0 = some v := hh
    rw [nthD_eq] at hh
    obtain ⟨c, hc, hr⟩ := r.cell hh
    refine ⟨c, ?_, hr⟩
    have hc : w.cell? ⟨blk, off, none⟩ = some c := by simpa using hc
    simp [loadVar, hty.run_isAgg, hb, hc]

/-- The row behind a pointer into a box. -/
theorem St.rowAt (s : St cx base hp μ h) {b ep i : Nat} {L : Loc} {x : T} (hb : μ b = some L) (he : h.elem b ep i = some x) : RowAt hp μ L.blk (i * L.sz) x.cells ∧ x.cells.length = L.sz := by
  obtain ⟨bx, hg, hok⟩ := s.box b L hb
  unfold H.elem at he
  rw [hg] at he
  obtain ⟨sz, ep', ver, ex, it, elems⟩ := bx
  have he : chk (Nat.beq ep' ep) (@Bool.rec (fun _ => Option T) (nthD elems i) none it) = some x := he
  obtain ⟨_, he⟩ := chk_eq_some.1 he
  cases it with
  | true => simp at he
  | false =>
    have he : elems[i]? = some x := by rw [← nthD_eq]; exact he
    have c := hok.plain rfl
    obtain ⟨arr, t, h1, h2, hL⟩ := c.row
    have hmem : x ∈ elems := List.mem_of_getElem? he
    have hlen := c.size x hmem
    have hi : i < elems.length := by
      rcases Nat.lt_or_ge i elems.length with y | y
      · exact y
      · simp [List.getElem?_eq_none y] at he
    have hfl := flat_length c.size
    refine ⟨⟨⟨arr, t, (0, 0), h1, ?_, fun k v hv => ?_⟩, fun v hv => c.scalar v ?_⟩, hlen⟩
    · rw [hlen, h2]
      have : i + 1 ≤ L.cap := by have := c.room; simp only [] at this; omega
      calc i * L.sz + L.sz = (i + 1) * L.sz := by rw [Nat.succ_mul]
        _ ≤ L.cap * L.sz := Nat.mul_le_mul_right _ this
    · have hk : k < x.cells.length := by
        rcases Nat.lt_or_ge k x.cells.length with y | y
        · exact y
        · simp [List.getElem?_eq_none y] at hv
      have hget : (flat elems)[i * L.sz + k]? = some v := by
        have hd := flat_drop c.size i
        have : elems.drop i = x :: elems.drop (i + 1) := by
          rw [List.drop_eq_getElem_cons hi]
          congr 1
          simpa [hi] using he
        rw [this, flat_cons] at hd
        rw [← List.getElem?_drop, hd, List.getElem?_append_left hk]
        exact hv
      obtain ⟨c', hc', hr⟩ := hL.get hget
      rw [List.getElem?_take] at hc'
      split at hc'
      · have : arr[i * L.sz + k]? = some c' := by simpa using hc'
        rw [Array.getD_eq_getD_getElem?, this]; exact hr
      · simp at hc'
    · exact List.mem_flatMap.2 ⟨x, hmem, hv⟩

theorem St.elem_ep (s : St cx base hp μ h) {b ep i : Nat} {L : Loc} {x : T} (hb : μ b = some L) (he : h.elem b ep i = some x) : ep = L.ep := by
  obtain ⟨bx, hg, hok⟩ := s.box b L hb
  unfold H.elem at he
  rw [hg] at he
  obtain ⟨sz, ep', ver, ex, it, elems⟩ := bx
  have he : chk (Nat.beq ep' ep) (@Bool.rec (fun _ => Option T) (nthD elems i) none it) = some x := he
  obtain ⟨h1, _⟩ := chk_eq_some.1 he
  have := Nat.eq_of_beq_eq_true h1
  have := hok.ep
  simp only [] at this
  omega

theorem load_sound {t : TypeId} {ty : Ty} {p v : T} {c : Value} (hty : TyOk P t ty) (s : St cx base w.heap μ h) (hc : RelV w.heap μ p c) (hh : h.load ty p = some v) :
    ∃ ad d, c = .pointer (some ad) ∧ (loadVar t ad).run P w = .ok d w ∧ RelV w.heap μ v d := by
  unfold H.load at hh
  cases p <;> simp at hh
  · rename_i b ep i j
    replace hh := bnd_eq_some.1 hh; obtain ⟨x, he, hh⟩ := hh
    replace hh := bnd_eq_some.1 hh; obtain ⟨cs, hd, hh⟩ := hh
    obtain ⟨L, ad, hq, hb, _, ha⟩ := hc.inv_ptr
    have hep := s.elem_ep hb he
    obtain ⟨r, hlen⟩ := s.rowAt hb he
    rw [dropN_eq] at hd
    split at hd
    · rename_i hle
      simp at hd; subst hd
      obtain ⟨d, h1, h2⟩ := readAs_sound hty (r.drop j hle) hh
      exact ⟨ad, d, hq, by rw [ha hep]; exact h1, h2⟩
    · simp at hd
  · rename_i cells
    obtain ⟨blk, off, arr, t', fz, hq, hn, hh', hs, hsc, hr⟩ := hc.inv_tptr
    obtain ⟨d, h1, h2⟩ := readAs_sound hty ⟨⟨arr, t', fz, hh', hs, hr⟩, (fun v hv => (hsc v hv).1)⟩ hh
    exact ⟨⟨blk, off, none⟩, d, hq, h1, h2⟩

theorem hLoad_sound (tys : TysOk P cx) {t : TypeId} {x : Operand} (s : St cx base w.heap μ h) (r : RelE w.heap μ mask e a.tmps) (ho : o.op = .load t x) {v : T} {h' : H}
    (hh : hLoad t x cx mask e h = some (.val v h')) : Done cx base w μ h.size ((execOp a.eval o).run P w) v h' := by
  replace hh := bnd_eq_some.1 hh; obtain ⟨ty, hty, hh⟩ := hh
  replace hh := bnd_eq_some.1 hh; obtain ⟨p, hp, hh⟩ := hh
  obtain ⟨hv, rfl⟩ := val_eq_some.1 hh
  obtain ⟨ad, d, hq, h1, h2⟩ := load_sound (tys.ty _ _ hty) s (opnd_sound s r hp) hv
  exact Done.pure s (by simp [execOp, ho, Instr.loadAt, hq, Instr.sureAddr, h1]) h2

theorem fieldOf_sound (tys : TysOk P cx) {t : TypeId} {f : Nat} {fd : Nat × TypeId} (hh : fieldOf cx t f = some fd) : ∃ fields fl, P.underlying t = some (.struct fields) ∧ fields[f]? = some fl ∧ fl.offset = fd.1 ∧ fl.type = fd.2 ∧
    ∃ i, P.info? fl.type = some i ∧ i.size ≠ 0 := by
  replace hh := bnd_eq_some.1 hh; obtain ⟨ty, hty, hh⟩ := hh
  obtain ⟨d, h1, h2⟩ := und_of (tys.ty _ _ hty)
  cases hu : ty.u <;> rw [hu] at hh h2 <;> simp at hh
  obtain ⟨fields, rfl, hfs, hall⟩ := uOf_struct h2
  subst hfs
  rw [List.getElem?_map] at hh
  cases hf : fields.toList[f]? with
  | none => rw [hf] at hh; simp at hh
  | some fl =>
    rw [hf] at hh
    simp at hh
    refine ⟨fields, fl, h1, by simpa using hf, by rw [← hh], by rw [← hh], hall fl (List.mem_of_getElem? hf)⟩

theorem hFieldAddr_sound (tys : TysOk P cx) {t : TypeId} {x : Operand} {f : Nat} (s : St cx base w.heap μ h) (r : RelE w.heap μ mask e a.tmps) (ho : o.op = .fieldAddr t x f) {v : T} {h' : H}
    (hh : hFieldAddr t x f cx mask e h = some (.val v h')) : Done cx base w μ h.size ((execOp a.eval o).run P w) v h' := by
  replace hh := bnd_eq_some.1 hh; obtain ⟨fd, hfd, hh⟩ := hh
  replace hh := bnd_eq_some.1 hh; obtain ⟨p, hp, hh⟩ := hh
  obtain ⟨fields, fl, h1, h2, h3, h4, i, h5, h6⟩ := fieldOf_sound tys hfd
  have hc := opnd_sound s r hp
  have hrun : ∀ ad : Addr, a.eval x = .pointer (some ad) → (execOp a.eval o).run P w = .ok (.value (.pointer (some (ad.add fd.1)))) w := by
    intro ad hq
    simp [execOp, ho, Instr.fieldAt, run_underlying h1, h2, hq, Instr.sureAddr, fieldPlace, sizeOf, typeInfo, h5, h6, h3]
  cases p <;> simp at hh
  · rename_i b ep i0 j
    obtain ⟨rfl, rfl⟩ := hh
    obtain ⟨L, ad, hq, hb, hep, ha⟩ := hc.inv_ptr
    refine Done.pure s (hrun ad hq) (.ptr b ep i0 (j + fd.1) L _ hb hep fun he => ?_)
    rw [ha he, add_none, Nat.add_assoc]
  · rename_i cells
    replace hh := bnd_eq_some.1 hh; obtain ⟨cs, hd, hh⟩ := hh
    simp at hh
    obtain ⟨rfl, rfl⟩ := hh
    obtain ⟨blk, off, arr, t', fz, hq, hn, hh', hs, hsc, hr⟩ := hc.inv_tptr
    rw [dropN_eq] at hd
    split at hd
    · rename_i hle
      simp at hd; subst hd
      refine Done.pure s (hrun _ hq) ?_
      rw [add_none]
      refine .tptr _ blk (off + fd.1) arr t' fz hn hh' (by simp; omega) (fun v hv => hsc v (List.mem_of_mem_drop hv)) fun k v hv => ?_
      rw [List.getElem?_drop] at hv
      have := hr _ v hv
      rwa [← Nat.add_assoc] at this
    · simp at hd

/-- A part of a row of cells that a value holds. -/
theorem readAs_part {t : TypeId} {ty : Ty} {cs : List T} {ds : Array Value} {off : Nat} {v : T} (hty : TyOk P t ty) (hL : RelL hp μ cs (ds.toList.drop off)) (hs : ∀ x ∈ cs, x.scalar = true) (hh : readAs ty cs = some v) :
    ∃ c, (part t ds off).run P w = .ok c w ∧ RelV hp μ v c := by
  unfold readAs at hh
  cases hb : ty.isAgg with
  | true =>
    rw [hb] at hh
    have hh : (bnd (takeN ty.size cs) fun r => some (T.agg r)) = some v := hh
    obtain ⟨q, h1, h2⟩ := bnd_eq_some.1 hh
    rw [takeN_eq] at h1
    split at h1
    · rename_i hle
      simp at h1 h2; subst h1; subst h2
      refine ⟨.agg (ds.extract off (off + ty.size)), by simp [part, hty.run_isAgg, hb, hty.run_sizeOf], RelV.aggOf ?_ fun x hx => hs x (List.mem_of_mem_take hx)⟩
      have := hL.take ty.size
      rw [Array.toList_extract]
      simpa [List.extract_eq_take_drop] using this
    · simp at h1
  | false =>
    rw [hb] at hh
    have hh : nthD cs 0 = some v := hh
    rw [nthD_eq] at hh
    obtain ⟨c, hc, hr⟩ := hL.get hh
    refine ⟨c, ?_, hr⟩
    have hc : ds[off]? = some c := by simpa using hc
    simp [part, hty.run_isAgg, hb, hc]

theorem hField_sound (tys : TysOk P cx) {t : TypeId} {x : Operand} {f : Nat} (s : St cx base w.heap μ h) (r : RelE w.heap μ mask e a.tmps) (ho : o.op = .field t x f) {v : T} {h' : H}
    (hh : hField t x f cx mask e h = some (.val v h')) : Done cx base w μ h.size ((execOp a.eval o).run P w) v h' := by
  replace hh := bnd_eq_some.1 hh; obtain ⟨fd, hfd, hh⟩ := hh
  replace hh := bnd_eq_some.1 hh; obtain ⟨tf, htf, hh⟩ := hh
  replace hh := bnd_eq_some.1 hh; obtain ⟨p, hp, hh⟩ := hh
  obtain ⟨fields, fl, h1, h2, h3, h4, _⟩ := fieldOf_sound tys hfd
  have hc := opnd_sound s r hp
  cases p <;> simp at hh
  replace hh := bnd_eq_some.1 hh; obtain ⟨cs, hd, hh⟩ := hh
  obtain ⟨hv, rfl⟩ := val_eq_some.1 hh
  obtain ⟨ds, hq, hL, hs⟩ := hc.inv_agg
  rw [dropN_eq] at hd
  split at hd
  · simp at hd; subst hd
    obtain ⟨c, hc1, hc2⟩ := readAs_part (P := P) (w := w) (tys.ty _ _ htf) (hL.drop fd.1) (fun x hx => hs x (List.mem_of_mem_drop hx)) hv
    refine Done.pure s ?_ hc2
    simp [execOp, ho, Instr.field, run_underlying h1, h2, hq, asAgg, h3, h4, hc1]
  · simp at hd

theorem toIdx_eq_some {v : T} {n : Nat} (hh : toIdx v = some n) : ∃ k, v = .int k (.ofNat n) := by
  unfold toIdx at hh
  cases v <;> simp at hh
  rename_i k m
  cases m with
  | ofNat m => simp at hh; subst hh; exact ⟨k, rfl⟩
  | negSucc m => simp at hh

theorem hIndex_sound (tys : TysOk P cx) {t : TypeId} {x y : Operand} (s : St cx base w.heap μ h) (r : RelE w.heap μ mask e a.tmps) (ho : o.op = .index t x y) {v : T} {h' : H}
    (hh : hIndex t x y cx mask e h = some (.val v h')) : Done cx base w μ h.size ((execOp a.eval o).run P w) v h' := by
  replace hh := bnd_eq_some.1 hh; obtain ⟨ty, hty, hh⟩ := hh
  replace hh := bnd_eq_some.1 hh; obtain ⟨p, hp, hh⟩ := hh
  replace hh := bnd_eq_some.1 hh; obtain ⟨q, hq, hh⟩ := hh
  replace hh := bnd_eq_some.1 hh; obtain ⟨i, hi, hh⟩ := hh
  obtain ⟨k, hk⟩ := toIdx_eq_some hi
  obtain ⟨d, hd, hu⟩ := und_of (tys.ty _ _ hty)
  have hx := opnd_sound s r hp
  have hy := (hk ▸ opnd_sound s r hq).inv_int
  cases hut : ty.u <;> rw [hut] at hh hu <;> simp at hh
  · -- a string
    have := uOf_str hu; subst this
    cases p <;> simp at hh
    rename_i str
    replace hh := bnd_eq_some.1 hh; obtain ⟨c, hc, hh⟩ := hh
    obtain ⟨hv, rfl⟩ := val_eq_some.1 hh
    simp at hv; subst hv
    obtain ⟨e1, b1⟩ := hx.inv_str
    refine Done.pure (c := .int .u8 (c : Int)) s ?_ (.int _ _)
    have hlt : i < str.length := by
      rcases Nat.lt_or_ge i str.length with z | z
      · exact z
      · simp [List.getElem?_eq_none z] at hc
    have hci : str[i] = c := by simpa [hlt] using hc
    have hcb : c < 256 := b1 c (by rw [← hci]; exact List.getElem_mem hlt)
    have hget : (bytesOf str)[i]? = some (UInt8.ofNat c) := by
      have hs : i < (bytesOf str).size := by rw [size_bytesOf]; exact hlt
      rw [getElem?_pos (bytesOf str) i hs]
      congr 1
      show (bytesOf str).data[i] = _
      simp [bytesOf, hci]
    simp [execOp, ho, Instr.index, hy, asIntOf, run_underlying hd, e1, hget, toNat_ofNat_lt hcb]
  · rename_i n el
    have := uOf_array hu; subst this
    cases p <;> simp at hh
    rename_i cells
    replace hh := bnd_eq_some.1 hh; obtain ⟨te, hte, hh⟩ := hh
    replace hh := chk_eq_some.1 hh; obtain ⟨hb, hh⟩ := hh
    replace hh := bnd_eq_some.1 hh; obtain ⟨cs, hdr, hh⟩ := hh
    obtain ⟨hv, rfl⟩ := val_eq_some.1 hh
    obtain ⟨ds, e1, hL, hsc⟩ := hx.inv_agg
    rw [dropN_eq] at hdr
    split at hdr
    · simp at hdr; subst hdr
      obtain ⟨c, hc1, hc2⟩ := readAs_part (P := P) (w := w) (tys.ty _ _ hte) (hL.drop (i * te.size)) (fun x hx => hsc x (List.mem_of_mem_drop hx)) hv
      refine Done.pure s ?_ hc2
      rw [Nat.blt_eq] at hb
      have hlt' : ¬ n ≤ i := by omega
      simp [execOp, ho, Instr.index, hy, asIntOf, run_underlying hd, e1, hlt', (tys.ty _ _ hte).run_sizeOf, hc1]
    · simp at hdr
end
end Go.TI
