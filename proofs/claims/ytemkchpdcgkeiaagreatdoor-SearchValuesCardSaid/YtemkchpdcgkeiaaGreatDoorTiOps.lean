/- Every operation. -/
import Derived.Test.YtemkchpdcgkeiaaGreatDoorTiBuiltin
import Derived.Lib.ConvBytes
set_option linter.unusedVariables false
namespace Go.TI
set_option linter.unusedSimpArgs false
set_option linter.unusedVariables false
section
variable {P : Program} {cx : Ctx} {base : Nat} {w : World} {μ : Mu} {h h' : H} {mask : Nat} {e : Env} {a : Act} {o : Oper} {hp hp' : Array Obj} {p : T}

/-- New blocks that are no box's. -/
theorem St.grow (s : St cx base hp μ h) (hsz : hp.size ≤ hp'.size) (hold : ∀ i, i < hp.size → hp'[i]? = hp[i]?) : St cx base hp' μ h ∧ Ext hp μ hp' μ := by
  have hext : Ext hp μ hp' μ := ⟨hsz, fun i hi hn => ⟨hold i hi, hn⟩, fun b L hb => ⟨L, hb, .inl rfl⟩, rfl, fun i hi _ => hold i hi⟩
  refine ⟨⟨s.wf, by have := s.fit; omega, fun b L hb => ?_, s.inj, s.low, s.apart, fun i hr => Nat.lt_of_lt_of_le (s.resLt i hr) hsz, fun g cs hg => (s.glob g cs hg).ext hext⟩, hext⟩
  obtain ⟨x, h1, h2⟩ := s.box b L hb
  exact ⟨x, h1, h2.ext hext (hold _ (s.lt hb))⟩

theorem bytesT_sound (tys : TysOk P cx) {src dst : TypeId} {x : Operand} (s : St cx base w.heap μ h) (r : RelE w.heap μ mask e a.tmps) (ho : o.op = .convert src dst x) {v : T}
    (hsrc : ∃ ty, cx.ty src = some ty) (hp : opnd cx mask e x = some p) (hv : bytesT cx dst p = some v) (hh : h' = h) : Done cx base w μ h.size ((execOp a.eval o).run P w) v h' := by
  subst hh
  obtain ⟨ts, hsrc⟩ := hsrc
  obtain ⟨ds, hds, _⟩ := und_of (tys.ty _ _ hsrc)
  replace hv := bnd_eq_some.1 hv; obtain ⟨ty, hty, hv⟩ := hv
  obtain ⟨d, hd, hu⟩ := und_of (tys.ty _ _ hty)
  have hx := opnd_sound s r hp
  cases hut : ty.u <;> rw [hut] at hv hu <;> simp only [reduceCtorEq] at hv
  rename_i el
  have := uOf_slice hu; subst this
  have hform : ∃ bs, p = .str bs := by cases p <;> first | exact ⟨_, rfl⟩ | (simp at hv)
  obtain ⟨bs, rfl⟩ := hform
  have hv : (bnd (cx.ty el) fun te => (match te.u with
        | .int k => chk (kEq k .u8) (@List.rec Nat (fun _ => Option T) (some .ewild) (fun _ _ _ => bnd (mapOpt (fun c => some (T.int .u8 (.ofNat c))) bs) fun es => some (.tree es false)) bs)
        | _ => none)) = some v := hv
  replace hv := bnd_eq_some.1 hv; obtain ⟨te, hte, hv⟩ := hv
  obtain ⟨de, hde, hue⟩ := und_of (tys.ty _ _ hte)
  cases hute : te.u <;> rw [hute] at hv hue <;> simp only [reduceCtorEq] at hv
  rename_i k
  replace hv := chk_eq_some.1 hv; obtain ⟨hk, hv⟩ := hv
  rw [kEq_eq] at hk; subst hk
  have := uOf_int hue; subst this
  obtain ⟨e1, hb⟩ := hx.inv_str
  -- the model's run
  let n := (bytesOf bs).size
  have hrun : ∃ cap w', n ≤ cap ∧ (execOp a.eval o).run P w = .ok (.value (.slice (some ⟨w.heap.size, 0, none⟩) n cap)) w' ∧ w'.heap.size = w.heap.size + 1 ∧ (∀ i, i < w.heap.size → w'.heap[i]? = w.heap[i]?) ∧
      w'.os = w.os ∧ w'.tape = w.tape ∧ w'.output = w.output ∧ ∃ fz, w'.heap[w.heap.size]? = some (.cells ((bytesOf bs).data.map (fun b => Value.int .u8 b.toNat) ++ Array.replicate (cap - n) (.int .u8 0)) el fz) := by
    refine ⟨grownCap w n 0 el, Lib.bytesWorld w el (bytesOf bs), grownCap_ge w _ _ _, ?_, Lib.bytesWorld_size _ _ _, fun i hi => Lib.bytesWorld_at_old _ _ _ i hi, rfl, rfl, rfl, _, Lib.bytesWorld_at_new _ _ _⟩
    simp only [execOp, ho, Sem.run_bind, e1, Lib.run_convert_string_bytes w src dst el (bytesOf bs) hds hd hde, Result.andThen_ok, Sem.run_pure]
    rfl
  obtain ⟨cap, w', hcap, hrun, hsz, hold, ho1, ho2, ho3, fz, hblk⟩ := hrun
  obtain ⟨s', hext⟩ := s.grow (hp' := w'.heap) (by omega) hold
  have hn : n = bs.length := size_bytesOf bs
  refine ⟨_, w', μ, .inl hrun, ?_, s', ⟨hext, ho1, ho2, ho3⟩, Dom.refl _ _⟩
  cases bs with
  | nil =>
    have hv : some T.ewild = some v := hv
    simp at hv; subst hv
    rw [hn]
    exact .ewild _ _
  | cons b bs =>
    have hv : (bnd (mapOpt (fun c => some (T.int .u8 (.ofNat c))) (b :: bs)) fun es => some (T.tree es false)) = some v := hv
    rw [mapOpt_bytes] at hv
    simp only [bnd_some, Option.some.injEq] at hv
    subst hv
    have hnotin : ¬ InMu μ w.heap.size := by
      rintro (⟨c, L, hc, hl⟩ | hr)
      · have := s.lt hc; omega
      · have := s.resLt _ hr; omega
    have hlen : n = (bs.map fun c => T.int .u8 (.ofNat c)).length + 1 := by rw [hn]; simp
    rw [hlen]
    refine .tree (T.int .u8 (.ofNat b)) (bs.map fun c => T.int .u8 (.ofNat c)) false w.heap.size 0 cap 1 _ el fz hnotin hblk (by omega) (by simp) ?_ ?_ ?_ ?_
    · intro v hv
      rw [← List.map_cons (f := fun c => T.int .u8 (.ofNat c))] at hv
      obtain ⟨c, _, rfl⟩ := List.mem_map.1 hv
      rfl
    · rw [← List.map_cons (f := fun c => T.int .u8 (.ofNat c)), flat_ints]
      simp [bytesOf]
    · rw [← List.map_cons (f := fun c => T.int .u8 (.ofNat c)), flat_ints]
      intro v hv
      obtain ⟨c, _, rfl⟩ := List.mem_map.1 hv
      exact ⟨rfl, .int _ _⟩
    · rw [← List.map_cons (f := fun c => T.int .u8 (.ofNat c)), flat_ints]
      intro k v hv
      rw [List.getElem?_map] at hv
      cases hk : (b :: bs)[k]? with
      | none => rw [hk] at hv; simp at hv
      | some q =>
        rw [hk] at hv; simp at hv; subst hv
        have hq : q < 256 := hb q (List.mem_of_getElem? hk)
        have hklt : k < (b :: bs).length := by
          rcases Nat.lt_or_ge k (b :: bs).length with y | y
          · exact y
          · rw [List.getElem?_eq_none y] at hk; simp at hk
        have hget : ((bytesOf (b :: bs)).data.map (fun b => Value.int .u8 b.toNat) ++ Array.replicate (cap - n) (.int .u8 0))[0 + k]? = some (.int .u8 (q : Int)) := by
          rw [Nat.zero_add, Array.getElem?_append_left (by simp [bytesOf]; simpa using hklt), Array.getElem?_map]
          have : (bytesOf (b :: bs)).data[k]? = some (UInt8.ofNat q) := by
            simp only [bytesOf, List.getElem?_toArray, List.getElem?_map, hk, Option.map_some]
          rw [this]
          simp [toNat_ofNat_lt hq]
        rw [Array.getD_eq_getD_getElem?, hget]
        exact .int _ _

theorem hNext_sound {x : Operand} {isS : Bool} (s : St cx base w.heap μ h) (r : RelE w.heap μ mask e a.tmps) (ho : o.op = .next x isS) {v : T}
    (hh : hNext x isS cx mask e h = some (.val v h')) : Done cx base w μ h.size ((execOp a.eval o).run P w) v h' := by
  unfold hNext at hh
  replace hh := chk_eq_some.1 hh; obtain ⟨hS, hh⟩ := hh
  subst hS
  replace hh := bnd_eq_some.1 hh; obtain ⟨p, hp, hh⟩ := hh
  have hx := opnd_sound s r hp
  have hform : ∃ b, p = .iter b := by cases p <;> first | exact ⟨_, rfl⟩ | (simp at hh)
  obtain ⟨b, rfl⟩ := hform
  replace hh := bnd_eq_some.1 hh; obtain ⟨bx, hbx, hh⟩ := hh
  replace hh := chk_eq_some.1 hh; obtain ⟨hit, hh⟩ := hh
  obtain ⟨L, ad, e1, hb, had⟩ := hx.inv_iter
  obtain ⟨y, hy1, hy2⟩ := s.box b L hb
  rw [hbx] at hy1; simp at hy1; subst hy1
  obtain ⟨hep, hor⟩ := hy2.iter hit
  rcases hor with ⟨str, pos, hel, hbs, hblk⟩ | ⟨es, m1, m2, m3⟩
  rotate_left
  · exfalso
    cases hE : bx.elems with
    | nil => rw [hE] at hh; simp at hh
    | cons z zs =>
      obtain ⟨k, u, me, rfl, _⟩ := m3 0 z (by simp [hE])
      rw [hE] at hh
      simp at hh
  have hL0 : L.ep = 0 := by rw [← hy2.ep]; exact hep
  have hadr := had hL0
  subst hadr
  rw [hel] at hh
  have hget : (getObj L.blk).run P w = .ok (.stringIter (bytesOf str) pos) w := by simp [getObj, Sem.run, hblk]
  have hh : (@Bool.rec (fun _ => Option Did) (some (.val (.tuple [.bool false]) h)) (bnd (nextChar str pos) fun c => bnd (normNat (Nat.succ pos)) fun pos' => bnd (normNat (Nat.succ bx.ver)) fun ver =>
          bnd (h.put b ⟨bx.sz, bx.ep, ver, bx.exact, true, [.str str, .int .i64 (.ofNat pos')]⟩) fun h' =>
            some (.val (.tuple [.bool true, .int .i64 (.ofNat pos), .int .i32 (.ofNat c)]) h')) (Nat.blt pos (lenN str))) = some (.val v h') := hh
  rw [lenN_eq] at hh
  cases hlt : Nat.blt pos str.length with
  | false =>
    rw [hlt] at hh
    have hh : some (Did.val (.tuple [.bool false]) h) = some (.val v h') := hh
    simp at hh
    obtain ⟨rfl, rfl⟩ := hh
    have hge : ¬ pos < str.length := by rw [← Nat.blt_eq]; simp [hlt]
    refine Done.pure (c := .tuple #[.bool false]) s ?_ (.tuple _ _ rfl fun k v hv => ?_)
    · simp [execOp, ho, Instr.next, e1, hget, size_bytesOf, hge]
    · cases k with
      | zero => simp at hv; subst hv; exact .bool _
      | succ k => simp at hv
  | true =>
    rw [hlt] at hh
    have hpl : pos < str.length := by rw [Nat.blt_eq] at hlt; exact hlt
    have hh : (bnd (nextChar str pos) fun c => bnd (normNat (Nat.succ pos)) fun pos' => bnd (normNat (Nat.succ bx.ver)) fun ver =>
          bnd (h.put b ⟨bx.sz, bx.ep, ver, bx.exact, true, [.str str, .int .i64 (.ofNat pos')]⟩) fun h' =>
            some (Did.val (.tuple [.bool true, .int .i64 (.ofNat pos), .int .i32 (.ofNat c)]) h')) = some (.val v h') := hh
    replace hh := bnd_eq_some.1 hh; obtain ⟨c, hc, hh⟩ := hh
    simp only [normNat_eq, bnd_some] at hh
    replace hh := bnd_eq_some.1 hh; obtain ⟨h2, hput, hh⟩ := hh
    simp only [Option.some.injEq, Did.val.injEq] at hh
    obtain ⟨rfl, rfl⟩ := hh
    unfold nextChar at hc
    obtain ⟨c', hc1, hc2⟩ := bnd_eq_some.1 hc
    obtain ⟨hc3, hc4⟩ := chk_eq_some.1 hc2
    simp at hc4; subst hc4
    rw [nthD_eq] at hc1
    rw [Nat.blt_eq] at hc3
    have hcb : c' < 256 := by omega
    have hdec : Utf8.decode (bytesOf str) pos = (c', 1) := by
      have hg : (bytesOf str).get! pos = UInt8.ofNat c' := by
        have hs : pos < (bytesOf str).size := by rw [size_bytesOf]; exact hpl
        show (bytesOf str).data[pos]! = _
        rw [getElem!_pos (bytesOf str).data pos hs]
        simp only [bytesOf, List.getElem_toArray, List.getElem_map]
        have : str[pos] = c' := by rw [List.getElem?_eq_getElem hpl] at hc1; simpa using hc1
        rw [this]
      unfold Utf8.decode
      simp only [Nat.add_zero, hg, toNat_ofNat_lt hcb]
      rw [if_pos (by omega)]
    have hset : ∀ ob : Obj, (setObj L.blk ob).run P w = .ok () { w with heap := w.heap.setIfInBounds L.blk ob } := by
      intro ob; simp [setObj, Sem.run, hblk]
    have hLlt := s.lt hb
    obtain ⟨k1, k2, k3⟩ := s.change (L' := L) (hp' := w.heap.setIfInBounds L.blk (.stringIter (bytesOf str) (pos + 1))) hb hput (by simp) (by
      intro i hi hne; rw [Array.getElem?_setIfInBounds_ne (Ne.symm hne)]) (.inl rfl) (by
      intro hext
      refine ⟨hy2.ep, hy2.sz, fun k => by simp at k, fun _ => ⟨hep, .inl ⟨str, pos + 1, rfl, hbs, by simp [hLlt]⟩⟩⟩)
    refine ⟨.tuple #[.bool true, .int .i64 pos, .int .i32 c'], { w with heap := w.heap.setIfInBounds L.blk (.stringIter (bytesOf str) (pos + 1)) }, _, .inl ?_, .tuple _ _ rfl fun k v hv => ?_, k1, ⟨k2, rfl, rfl, rfl⟩, k3⟩
    · simp [execOp, ho, Instr.next, e1, hget, size_bytesOf, hpl, hdec, hset, goInt]
    · match k, hv with
      | 0, hv => simp at hv; subst hv; exact .bool _
      | 1, hv => simp at hv; subst hv; exact .int _ _
      | 2, hv => simp at hv; subst hv; exact .int _ _
      | k + 3, hv => simp at hv

theorem bLen_sound (tys : TysOk P cx) (s : St cx base w.heap μ h) {ts : Array TypeId} {ty' : TypeId} {q v : T} {c : Value} (hq : RelV w.heap μ q c) (hh : bLen cx h ts.toList q = some (.val v h')) :
    DoneV cx base w μ h.size ((Builtin.len_ ts ty' #[c]).run P w) v h' := by
  replace hh := bnd_eq_some.1 hh; obtain ⟨t, ht, hh⟩ := hh
  replace hh := bnd_eq_some.1 hh; obtain ⟨ty, hty, hh⟩ := hh
  obtain ⟨d, hd, hu⟩ := und_of (tys.ty _ _ hty)
  have ht : ts[0]? = some t := by rw [nthD_eq] at ht; simpa using ht
  cases hut : ty.u <;> rw [hut] at hh hu <;> simp only [reduceCtorEq] at hh
  · have := uOf_str hu; subst this
    cases q <;> simp at hh
    obtain ⟨hv, rfl⟩ := val_eq_some.1 hh
    simp at hv; subst hv
    obtain ⟨e1, _⟩ := hq.inv_str
    exact DoneV.pure s (by simp [Builtin.len_, ht, run_underlying hd, e1, size_bytesOf, goInt]) (.int _ _)
  · have := uOf_slice hu; subst this
    cases q <;> simp at hh
    · obtain ⟨hv, rfl⟩ := val_eq_some.1 hh
      simp at hv; subst hv
      rename_i es full
      cases es with
      | nil => obtain ⟨ad, e1⟩ := hq.inv_tree0; exact DoneV.pure s (by simp [Builtin.len_, ht, run_underlying hd, e1, goInt]) (.int _ _)
      | cons x0 es => obtain ⟨_, _, _, _, _, _, _, e1, _⟩ := hq.inv_tree; exact DoneV.pure s (by simp [Builtin.len_, ht, run_underlying hd, e1, goInt]) (.int _ _)
    · obtain ⟨hv, rfl⟩ := val_eq_some.1 hh
      simp at hv; subst hv
      obtain ⟨ad, cap, e1⟩ := hq.inv_ewild
      exact DoneV.pure s (by simp [Builtin.len_, ht, run_underlying hd, e1, goInt]) (.int _ _)
    · obtain ⟨hv, rfl⟩ := val_eq_some.1 hh
      simp at hv; subst hv
      obtain ⟨_, _, _, e1, _⟩ := hq.inv_arr
      exact DoneV.pure s (by simp [Builtin.len_, ht, run_underlying hd, e1, goInt]) (.int _ _)
  · have := uOf_array hu; subst this
    obtain ⟨hv, rfl⟩ := val_eq_some.1 hh
    simp at hv; subst hv
    exact DoneV.pure s (by simp [Builtin.len_, ht, run_underlying hd, goInt]) (.int _ _)

/-- A call of a built-in function. -/
theorem builtin_sound (tys : TysOk P cx) (s : St cx base w.heap μ h) (r : RelE w.heap μ mask e a.tmps) {c : Call} {b : Builtin} (ho : o.op = .call c) (hc : c.callee = .builtin b) {args : List T} (hargs : opnds cx mask e c.args.toList = some args) {v : T}
    (hh : builtinT b cx h c.argTypes.toList args = some (.val v h')) : Done cx base w μ h.size ((execOp a.eval o).run P w) v h' := by
  have hL := opnds_sound s r hargs
  have lift : ∀ {m : Sem Value}, (execOp a.eval o).run P w = ((m.run P w).andThen fun v w' => .ok (Next.value v) w') → DoneV cx base w μ h.size (m.run P w) v h' → Done cx base w μ h.size ((execOp a.eval o).run P w) v h' := by
    intro m hr hd
    obtain ⟨z, w', μ', d1, d2, d3, d4, d5⟩ := hd
    exact ⟨z, w', μ', .inl (by rw [hr, d1]; rfl), d2, d3, d4, d5⟩
  have hexec : (execOp a.eval o).run P w = (builtin b c.argTypes o.type (c.args.map fun | .const _ => true | _ => false) (c.args.map a.eval)).run P w := by
    simp [execOp, ho, resolve, hc, invoke]
    rfl
  have hargL : (c.args.map a.eval).toList = c.args.toList.map a.eval := by simp
  cases b <;> simp only [builtinT, reduceCtorEq] at hh
  case len =>
    match args, hh, hL with
    | [x], hh, hL =>
      obtain ⟨c1, cs, hcs, hv, hrest⟩ := hL.uncons
      have hnil : cs = [] := List.eq_nil_of_length_eq_zero (by have := hrest.1; simpa using this.symm)
      subst hnil
      have ha : c.args.map a.eval = #[c1] := by apply Array.ext'; rw [hargL, hcs]
      refine lift (m := Builtin.len_ c.argTypes o.type #[c1]) ?_ (bLen_sound tys s hv hh)
      rw [hexec, ha]; simp [builtin]
  case append =>
    match args, hh, hL with
    | [x, y], hh, hL =>
      match hts : c.argTypes.toList, hh with
      | [t, tx], hh =>
        obtain ⟨c1, cs, hcs, hv, hrest⟩ := hL.uncons
        obtain ⟨c2, cs', rfl, hv2, hrest2⟩ := hrest.uncons
        have hnil : cs' = [] := List.eq_nil_of_length_eq_zero (by have := hrest2.1; simpa using this.symm)
        subst hnil
        have ha : c.args.map a.eval = #[c1, c2] := by apply Array.ext'; rw [hargL, hcs]
        have hta : c.argTypes = #[t, tx] := by apply Array.ext'; rw [hts]
        refine lift (m := Builtin.append_ #[t, tx] o.type #[c1, c2]) ?_ (bAppend_sound tys s hv hv2 hh)
        rw [hexec, ha, hta]; simp [builtin]
  case clear =>
    match args, hh, hL with
    | [x], hh, hL =>
      match hts : c.argTypes.toList, hh with
      | [t], hh =>
        obtain ⟨c1, cs, hcs, hv, hrest⟩ := hL.uncons
        have hnil : cs = [] := List.eq_nil_of_length_eq_zero (by have := hrest.1; simpa using this.symm)
        subst hnil
        have ha : c.args.map a.eval = #[c1] := by apply Array.ext'; rw [hargL, hcs]
        have hta : c.argTypes = #[t] := by apply Array.ext'; rw [hts]
        refine lift (m := Builtin.clear_ #[t] o.type #[c1]) ?_ (bClear_sound tys s hv hh)
        rw [hexec, ha, hta]; simp [builtin]
  case min =>
    match args, hh, hL with
    | [x, y], hh, hL =>
      obtain ⟨hv0, rfl⟩ := val_eq_some.1 hh
      obtain ⟨k, m, n, rfl, rfl, h2⟩ := int2_eq_some hv0
      obtain ⟨c1, cs, hcs, hv, hrest⟩ := hL.uncons
      obtain ⟨c2, cs', rfl, hv2, hrest2⟩ := hrest.uncons
      have hnil : cs' = [] := List.eq_nil_of_length_eq_zero (by have := hrest2.1; simpa using this.symm)
      subst hnil
      rw [hv.inv_int, hv2.inv_int] at hcs
      have ha : c.args.map a.eval = #[.int k m, .int k n] := by apply Array.ext'; rw [hargL, hcs]
      rw [rInt_eq] at h2; simp only [Option.some.injEq] at h2; subst h2
      refine Done.pure s ?_ (.int _ _)
      rw [hexec, ha]
      simp only [builtin, Builtin.min_, List.foldlM, Builtin.min2, Sem.run_bind, Sem.run_pure, Result.andThen_ok]
      have := ltI_eq n m
      by_cases hlt : n < m <;> simp [this, hlt, Builtin.min2]
  case max =>
    match args, hh, hL with
    | [x, y], hh, hL =>
      obtain ⟨hv0, rfl⟩ := val_eq_some.1 hh
      obtain ⟨k, m, n, rfl, rfl, h2⟩ := int2_eq_some hv0
      obtain ⟨c1, cs, hcs, hv, hrest⟩ := hL.uncons
      obtain ⟨c2, cs', rfl, hv2, hrest2⟩ := hrest.uncons
      have hnil : cs' = [] := List.eq_nil_of_length_eq_zero (by have := hrest2.1; simpa using this.symm)
      subst hnil
      rw [hv.inv_int, hv2.inv_int] at hcs
      have ha : c.args.map a.eval = #[.int k m, .int k n] := by apply Array.ext'; rw [hargL, hcs]
      rw [rInt_eq] at h2; simp only [Option.some.injEq] at h2; subst h2
      refine Done.pure s ?_ (.int _ _)
      rw [hexec, ha]
      have := ltI_eq m n
      by_cases hlt : m < n <;> simp [builtin, Builtin.max_, Builtin.max2, this, hlt]
end
end Go.TI
