/- Equality. -/
import Derived.Test.YtemkchpdcgkeiaaGreatDoorTiBin
import Derived.Laws.StructEq
import Derived.ChangeKeysEq
namespace Go.TI
set_option linter.unusedSimpArgs false
set_option linter.unusedVariables false
section
variable {P : Program} {cx : Ctx} {base : Nat} {w : World} {μ : Mu} {h : H} {mask : Nat} {e : Env} {a : Act} {o : Oper} {hp : Array Obj}

theorem und_of {t : TypeId} {ty : Ty} (h : TyOk P t ty) : ∃ d, P.underlying t = some d ∧ uOf P d = some ty.u := by
  obtain ⟨i, d, z, _, h2, _, _, h5, _⟩ := h.unfold
  exact ⟨d, h2, h5⟩

theorem uOf_int {d : TypeDesc} {k : IntKind} (h : uOf P d = some (.int k)) : d = .int k := by
  cases d <;> simp only [uOf] at h <;> first | (split at h <;> simp at h; done) | (simp at h; done) | (simp at h; rw [h])
theorem uOf_bool {d : TypeDesc} (h : uOf P d = some .bool) : d = .bool := by
  cases d <;> simp only [uOf] at h <;> first | rfl | (split at h <;> simp at h; done) | (simp at h; done)
theorem uOf_str {d : TypeDesc} (h : uOf P d = some .str) : d = .string := by
  cases d <;> simp only [uOf] at h <;> first | rfl | (split at h <;> simp at h; done) | (simp at h; done)
theorem uOf_slice {d : TypeDesc} {e : TypeId} (h : uOf P d = some (.slice e)) : d = .slice e := by
  cases d <;> simp only [uOf] at h <;> first | (split at h <;> simp at h; done) | (simp at h; done) | (simp at h; rw [h])
theorem uOf_array {d : TypeDesc} {n : Nat} {e : TypeId} (h : uOf P d = some (.array n e)) : d = .array n e := by
  cases d <;> simp only [uOf] at h <;> first | (split at h <;> simp at h; done) | (simp at h; done) | (simp at h; rw [h.1, h.2])
theorem uOf_ptr {d : TypeDesc} {e : TypeId} (h : uOf P d = some (.ptr e)) : d = .pointer e := by
  cases d <;> simp only [uOf] at h <;> first | (split at h <;> simp at h; done) | (simp at h; done) | (simp at h; rw [h])
theorem uOf_func {d : TypeDesc} (h : uOf P d = some .func) : ∃ p r v, d = .func p r v := by
  cases d <;> simp only [uOf] at h <;> first | (split at h <;> simp at h; done) | (simp at h; done) | exact ⟨_, _, _, rfl⟩
theorem uOf_iface {d : TypeDesc} (h : uOf P d = some .iface) : ∃ ms, d = .interface ms := by
  cases d <;> simp only [uOf] at h <;> first | (split at h <;> simp at h; done) | (simp at h; done) | exact ⟨_, rfl⟩
theorem uOf_struct {d : TypeDesc} {fs : List (Nat × TypeId)} (h : uOf P d = some (.struct fs)) :
    ∃ fields, d = .struct fields ∧ fs = fields.toList.map (fun f => (f.offset, f.type)) ∧ ∀ f ∈ fields.toList, ∃ i, P.info? f.type = some i ∧ i.size ≠ 0 := by
  cases d <;> simp only [uOf] at h <;> try (simp at h; done)
  rename_i fields
  split at h
  · rename_i hall
    simp only [Option.some.injEq, U.struct.injEq] at h
    refine ⟨fields, rfl, h.symm, fun f hf => ?_⟩
    have := List.all_eq_true.1 hall f hf
    cases hi : P.info? f.type with
    | none => rw [hi] at this; simp at this
    | some i => rw [hi] at this; exact ⟨i, rfl, by simpa using this⟩
  · simp at h

theorem bytes_beq {s t : List Nat} (hs : ∀ x ∈ s, x < 256) (ht : ∀ x ∈ t, x < 256) : (bytesOf s == bytesOf t) = eqL s t := by
  rw [beq_toListBytes, eq_bytes hs ht]

/-- Of one cell: what the model's comparison by type says. -/
theorem eqCell_sound {t : TypeId} {d : TypeDesc} {u : U} {x y : T} {c k : Value} {b : Bool} (hd : P.underlying t = some d) (hu : uOf P d = some u) (hx : RelV hp μ x c) (hy : RelV hp μ y k)
    (hh : eqCell u x y = some b) (n : Nat) : (Op.equalIn (n + 1) t c k).run P w = .ok b w := by
  unfold eqCell at hh
  split at hh
  · have := uOf_int hu; subst this
    cases x <;> simp at hh
    cases y <;> simp at hh
    obtain ⟨h1, h2⟩ := chk_eq_some.1 hh
    rw [kEq_eq] at h1; subst h1
    simp at h2; subst h2
    rw [hx.inv_int, hy.inv_int]
    simp [Op.equalIn, run_underlying hd, eqI_eq]
  · have := uOf_bool hu; subst this
    cases x <;> simp at hh
    cases y <;> simp at hh
    rename_i p q
    rw [hx.inv_bool, hy.inv_bool]
    cases p <;> cases q <;> simp at hh <;> subst hh <;> simp [Op.equalIn, run_underlying hd]
  · have := uOf_str hu; subst this
    cases x <;> simp at hh
    cases y <;> simp at hh
    subst hh
    obtain ⟨e1, b1⟩ := hx.inv_str
    obtain ⟨e2, b2⟩ := hy.inv_str
    rw [e1, e2]
    simp [Op.equalIn, run_underlying hd, bytes_beq b1 b2]
  · have := uOf_ptr hu; subst this
    cases x <;> simp at hh
    · rw [hx.inv_nilp]
      cases y <;> simp at hh <;> subst hh
      · rw [hy.inv_nilp]; simp [Op.equalIn, run_underlying hd]
      · obtain ⟨L, ad, hq, _⟩ := hy.inv_ptr; rw [hq]; simp [Op.equalIn, run_underlying hd]
      · obtain ⟨blk, off, arr, t, fz, hq, _⟩ := hy.inv_tptr; rw [hq]; simp [Op.equalIn, run_underlying hd]
    · obtain ⟨L, ad, hq, _⟩ := hx.inv_ptr
      cases y <;> simp at hh
      subst hh
      rw [hy.inv_nilp, hq]; simp [Op.equalIn, run_underlying hd]
    · obtain ⟨blk, off, arr, t, fz, hq, _⟩ := hx.inv_tptr
      cases y <;> simp at hh
      subst hh
      rw [hy.inv_nilp, hq]; simp [Op.equalIn, run_underlying hd]
  · obtain ⟨pp, rr, vv, rfl⟩ := uOf_func hu
    cases x <;> simp at hh
    · obtain ⟨cs, hq, _⟩ := hx.inv_func
      cases y <;> simp at hh
      subst hh
      rw [hy.inv_nilf, hq]; simp [Op.equalIn, run_underlying hd]
    · rw [hx.inv_nilf]
      cases y <;> simp at hh <;> subst hh
      · obtain ⟨cs, hq, _⟩ := hy.inv_func; rw [hq]; simp [Op.equalIn, run_underlying hd]
      · rw [hy.inv_nilf]; simp [Op.equalIn, run_underlying hd]
  · obtain ⟨ms, rfl⟩ := uOf_iface hu
    cases x <;> simp at hh
    · rw [hx.inv_nili]
      cases y <;> simp at hh <;> subst hh
      · rw [hy.inv_nili]; simp [Op.equalIn, run_underlying hd]
      · obtain ⟨dd, hq⟩ := hy.inv_iface; rw [hq]; simp [Op.equalIn, run_underlying hd]
    · obtain ⟨dd, hq⟩ := hx.inv_iface
      cases y <;> simp at hh
      subst hh
      rw [hy.inv_nili, hq]; simp [Op.equalIn, run_underlying hd]
  · simp at hh

theorem eqFields_cons (f : Nat × TypeId) (fs : List (Nat × TypeId)) (i : Nat) (x : T) (r : List T) (y : T) (q : List T) : eqFields cx (f :: fs) i (x :: r) (y :: q) =
    chk (Nat.beq f.1 i) (bnd (cx.ty f.2) fun ty => chk ty.u.plain (bnd (eqCell ty.u x y) fun t => @Bool.rec (fun _ => Option Bool) (some false) (eqFields cx fs (i + 1) r q) t)) := rfl

theorem run_part_plain {t : TypeId} {ty : Ty} (h : TyOk P t ty) (hp : ty.u.plain = true) {cs : Array Value} {k : Nat} {c : Value} (hc : cs[k]? = some c) : (part t cs k).run P w = .ok c w := by
  have hagg : ty.isAgg = false := by
    unfold Ty.isAgg
    cases hu : ty.u <;> simp [hu, U.plain] at hp <;> rfl
  simp [part, h.run_isAgg, hagg, hc]

theorem eqFields_sound (tys : TysOk P cx) (n : Nat) : ∀ (fields : List Field) (i : Nat) (xs ys : List T) (cs ds : Array Value) (b : Bool),
    RelL hp μ xs (cs.toList.drop i) → RelL hp μ ys (ds.toList.drop i) → (∀ f ∈ fields, f.name ≠ "_") → eqFields cx (fields.map fun f => (f.offset, f.type)) i xs ys = some b →
    (Op.eqFields (n + 1) cs ds fields).run P w = .ok b w := by
  intro fields
  induction fields with
  | nil =>
    intro i xs ys cs ds b _ _ _ hh
    have : b = true := by simpa [eqFields] using hh.symm
    subst this
    simp [Op.eqFields]
  | cons f fields ih =>
    intro i xs ys cs ds b hx hy hn hh
    rw [List.map_cons] at hh
    cases xs with
    | nil => simp [eqFields] at hh
    | cons x xs => cases ys with
      | nil => simp [eqFields] at hh
      | cons y ys =>
        rw [eqFields_cons] at hh
        obtain ⟨h1, hh⟩ := chk_eq_some.1 hh
        obtain ⟨ty, h2, hh⟩ := bnd_eq_some.1 hh
        obtain ⟨h3, hh⟩ := chk_eq_some.1 hh
        obtain ⟨q, h4, hh⟩ := bnd_eq_some.1 hh
        have hoff : f.offset = i := Nat.eq_of_beq_eq_true h1
        obtain ⟨c, hc, hxc⟩ := hx.get (k := 0) (v := x) (by simp)
        obtain ⟨d, hd, hyd⟩ := hy.get (k := 0) (v := y) (by simp)
        have hci : cs[i]? = some c := by simpa using hc
        have hdi : ds[i]? = some d := by simpa using hd
        have hty := tys.ty _ _ h2
        obtain ⟨dd, hdd, huu⟩ := und_of hty
        have heq := eqCell_sound (P := P) (w := w) hdd huu hxc hyd h4 n
        have hnm : f.name ≠ "_" := hn f (by simp)
        simp only [Op.eqFields, hnm, ne_eq, not_false_eq_true, if_true, Sem.run_bind, hoff, run_part_plain hty h3 hci, run_part_plain hty h3 hdi, Result.andThen_ok, heq]
        cases q with
        | false =>
          have : b = false := by simpa using hh.symm
          subst this
          simp
        | true =>
          simp only [Bool.not_true, Bool.false_eq_true, if_false]
          refine ih (i + 1) xs ys cs ds b ?_ ?_ (fun g hg => hn g (by simp [hg])) hh
          · have := hx.drop 1; simpa [List.drop_drop, Nat.add_comm] using this
          · have := hy.drop 1; simpa [List.drop_drop, Nat.add_comm] using this

theorem eqElems_sound {e : TypeId} {te : Ty} (hty : TyOk P e te) (hpl : te.u.plain = true) (n : Nat) : ∀ (xs ys : List T) (i : Nat) (cs ds : Array Value) (b : Bool),
    RelL hp μ xs (cs.toList.drop i) → RelL hp μ ys (ds.toList.drop i) → eqElems te.u xs ys = some b → (Op.eqItems (n + 1) e 1 cs ds (List.range' i xs.length)).run P w = .ok b w := by
  intro xs
  induction xs with
  | nil =>
    intro ys i cs ds b _ _ hh
    have : b = true := by
      cases ys with
      | nil => have hh : some true = some b := hh; simpa using hh.symm
      | cons => simp [eqElems] at hh
    subst this
    simp [Op.eqItems]
  | cons x xs ih =>
    intro ys i cs ds b hx hy hh
    cases ys with
    | nil => simp [eqElems] at hh
    | cons y ys =>
      have hh : (bnd (eqCell te.u x y) fun t => @Bool.rec (fun _ => Option Bool) (some false) (eqElems te.u xs ys) t) = some b := hh
      obtain ⟨q, h4, hh⟩ := bnd_eq_some.1 hh
      obtain ⟨c, hc, hxc⟩ := hx.get (k := 0) (v := x) (by simp)
      obtain ⟨d, hd, hyd⟩ := hy.get (k := 0) (v := y) (by simp)
      have hci : cs[i]? = some c := by simpa using hc
      have hdi : ds[i]? = some d := by simpa using hd
      obtain ⟨dd, hdd, huu⟩ := und_of hty
      have heq := eqCell_sound (P := P) (w := w) hdd huu hxc hyd h4 n
      rw [List.length_cons, List.range'_succ]
      simp only [Op.eqItems, Sem.run_bind, Nat.mul_one, run_part_plain hty hpl hci, run_part_plain hty hpl hdi, Result.andThen_ok, heq]
      cases q with
      | false =>
        have : b = false := by simpa using hh.symm
        subst this
        simp
      | true =>
        simp only [Bool.not_true, Bool.false_eq_true, if_false]
        refine ih ys (i + 1) cs ds b ?_ ?_ hh
        · have := hx.drop 1; simpa [List.drop_drop, Nat.add_comm] using this
        · have := hy.drop 1; simpa [List.drop_drop, Nat.add_comm] using this

theorem eqGuard_nil {op : BinOp} {t : TypeId} {x y : Operand} (hc : (Region.isConst x || Region.isConst y) = true) : (eqGuard op t x y .nilIface .nilIface).run P w = .ok () w := by
  unfold eqGuard
  cases x <;> cases y <;> simp [Region.isConst] at hc <;> simp

theorem hEq_sound (tys : TysOk P cx) {neg : Bool} {op : BinOp} {t u : TypeId} {x y : Operand} (hop : op = (if neg then BinOp.neq else BinOp.eql)) (s : St cx base w.heap μ h) (r : RelE w.heap μ mask e a.tmps)
    (ho : o.op = .binOp op t x y u) {v : T} {h' : H} (hh : hEq neg t x y cx mask e h = some (.val v h')) : Done cx base w μ h.size ((execOp a.eval o).run P w) v h' := by
  obtain ⟨ty, hty0, hh⟩ := bnd_eq_some.1 hh
  obtain ⟨p, hp, hh⟩ := bnd_eq_some.1 hh
  obtain ⟨q, hq, hh⟩ := bnd_eq_some.1 hh
  obtain ⟨hnil, hh⟩ := chk_eq_some.1 hh
  obtain ⟨b, hb, hh⟩ := bnd_eq_some.1 hh
  obtain ⟨hv, rfl⟩ := val_eq_some.1 hh
  have hx := opnd_sound s r hp
  have hy := opnd_sound s r hq
  have hty := tys.ty _ _ hty0
  have hfin : v = .bool (if neg then !b else b) := by
    rw [rBool_eq] at hv
    cases neg <;> simpa using hv.symm
  subst hfin
  -- the guard, and the comparison by type
  have key : (eqGuard op t x y (a.eval x) (a.eval y)).run P w = .ok () w ∧ (binOp op t (a.eval x) (a.eval y)).run P w = .ok (.bool (if neg then !b else b)) w := by
    obtain ⟨i, d, z, _, h2, _, _, h5, _, _, _, _, hcmp⟩ := hty.unfold
    unfold eqT at hb
    split at hb
    · rename_i fs hfs
      rw [hfs] at h5
      obtain ⟨fields, rfl, hfl, _⟩ := uOf_struct h5
      cases p <;> simp at hb
      cases q <;> simp at hb
      obtain ⟨hc, hb⟩ := chk_eq_some.1 hb
      obtain ⟨c1, c2, c3⟩ := hcmp hc
      obtain ⟨cs, e1, L1, _⟩ := hx.inv_agg
      obtain ⟨ds, e2, L2, _⟩ := hy.inv_agg
      rw [e1, e2]
      refine ⟨run_eqGuard_agg w op t x y cs ds c2, ?_⟩
      have hfo : P.fieldsOf t = fields := by simp [Program.fieldsOf, h2]
      have heq : (Op.equalIn 10000 t (.agg cs) (.agg ds)).run P w = .ok b w := by
        rw [run_equalIn_struct w 9999 t cs ds (by rw [hfo]; exact h2) c1, hfo]
        rw [hfl] at hb
        refine eqFields_sound tys 9998 fields.toList 0 _ _ cs ds b (by simpa using L1) (by simpa using L2) ?_ hb
        intro f hf
        have := List.all_eq_true.1 c3 f hf
        simpa using this
      cases neg with
      | false => simp at hop; subst hop; rw [run_eql_struct, heq]; rfl
      | true => simp at hop; subst hop; rw [run_neq_struct, heq]; rfl
    · rename_i n e hfs
      rw [hfs] at h5
      have hd := uOf_array h5
      subst hd
      cases p <;> simp at hb
      cases q <;> simp at hb
      obtain ⟨hc, hb⟩ := chk_eq_some.1 hb
      obtain ⟨te, hte0, hb⟩ := bnd_eq_some.1 hb
      obtain ⟨hpl, hb⟩ := chk_eq_some.1 hb
      obtain ⟨hs1, hb⟩ := chk_eq_some.1 hb
      obtain ⟨hln, hb⟩ := chk_eq_some.1 hb
      obtain ⟨c1, c2, c3⟩ := hcmp hc
      obtain ⟨cs, e1, L1, _⟩ := hx.inv_agg
      obtain ⟨ds, e2, L2, _⟩ := hy.inv_agg
      rw [e1, e2]
      refine ⟨run_eqGuard_agg w op t x y cs ds c2, ?_⟩
      have hte := tys.ty _ _ hte0
      have heq : (Op.equalIn 10000 t (.agg cs) (.agg ds)).run P w = .ok b w := by
        obtain ⟨i', d', z', hi', _, _, _, _, _, _, hsz', _⟩ := hte.unfold
        rw [run_equalIn_array w 9999 cs ds h2 hi', List.range_eq_range']
        have hone : P.cellsOf e = 1 := by
          have := Nat.eq_of_beq_eq_true hs1
          simp only [Program.cellsOf, hi', Option.map_some, Option.getD_some]
          omega
        have hlen := Nat.eq_of_beq_eq_true hln
        rw [hone, ← hlen]
        exact eqElems_sound hte hpl 9998 _ _ 0 cs ds b (by simpa using L1) (by simpa using L2) hb
      cases neg with
      | false => simp at hop; subst hop; rw [run_eql_struct, heq]; rfl
      | true => simp at hop; subst hop; rw [run_neq_struct, heq]; rfl
    · have heq := eqCell_sound (P := P) (w := w) h2 h5 hx hy hb 9999
      have hguard : ∀ c k : Value, (c ≠ .nilIface ∨ k ≠ .nilIface) → ((∀ xs, c ≠ .agg xs) ∨ ∀ ys, k ≠ .agg ys) → (eqGuard op t x y c k).run P w = .ok () w := by
        intro c k g1 g2
        cases neg with
        | false =>
          simp at hop; subst hop
          cases c <;> cases k <;> first | (simp [eqGuard]; done) | (simp at g1; done) | (simp at g2; done)
        | true =>
          simp at hop; subst hop
          cases c <;> cases k <;> first | (simp [eqGuard]; done) | (simp at g1; done) | (simp at g2; done)
      have hgen : ∀ c k : Value, (∀ k1 m1 k2 m2, (c, k) ≠ (.int k1 m1, .int k2 m2)) → (∀ s1 s2, (c, k) ≠ (.string s1, .string s2)) → (∀ f1 b1 f2 b2, (c, k) ≠ (.float f1 b1, .float f2 b2)) → (∀ f1 b1 c1 f2 b2 c2, (c, k) ≠ (.complex f1 b1 c1, .complex f2 b2 c2)) →
          (Op.equalIn 10000 t c k).run P w = .ok b w → (binOp op t c k).run P w = .ok (.bool (if neg then !b else b)) w := by
        intro c k n1 n2 n3 n4 he
        cases neg with
        | false =>
          simp at hop; subst hop
          cases c <;> cases k <;> first | (exact absurd rfl (n1 _ _ _ _)) | (exact absurd rfl (n2 _ _)) | (exact absurd rfl (n3 _ _ _ _)) | (exact absurd rfl (n4 _ _ _ _ _ _)) | (simp [binOp, Op.equal, Op.maxDepth, he])
        | true =>
          simp at hop; subst hop
          cases c <;> cases k <;> first | (exact absurd rfl (n1 _ _ _ _)) | (exact absurd rfl (n2 _ _)) | (exact absurd rfl (n3 _ _ _ _)) | (exact absurd rfl (n4 _ _ _ _ _ _)) | (simp [binOp, Op.equal, Op.maxDepth, he])
      unfold eqCell at hb
      split at hb
      · cases p <;> simp at hb
        cases q <;> simp at hb
        obtain ⟨k1, k2⟩ := chk_eq_some.1 hb
        rw [kEq_eq] at k1; subst k1
        simp at k2; subst k2
        rw [hx.inv_int, hy.inv_int]
        refine ⟨hguard _ _ (.inl (by simp)) (.inl (by simp)), ?_⟩
        cases neg <;> simp at hop <;> subst hop <;> simp [binOp, Op.intCmp, eqI_eq, bne]
      · cases p <;> simp at hb
        cases q <;> simp at hb
        rw [hx.inv_bool, hy.inv_bool] at heq ⊢
        exact ⟨hguard _ _ (.inl (by simp)) (.inl (by simp)), hgen _ _ (by simp) (by simp) (by simp) (by simp) heq⟩
      · cases p <;> simp at hb
        cases q <;> simp at hb
        subst hb
        obtain ⟨e1, b1⟩ := hx.inv_str
        obtain ⟨e2, b2⟩ := hy.inv_str
        rw [e1, e2]
        refine ⟨hguard _ _ (.inl (by simp)) (.inl (by simp)), ?_⟩
        cases neg <;> simp at hop <;> subst hop <;> simp [binOp, Op.stringOp, eq_bytes b1 b2]
      · cases p <;> simp at hb
        · have e1 := hx.inv_nilp
          rw [e1] at heq ⊢
          have e2 : ∃ ad, a.eval y = .pointer ad := by
            cases q <;> simp at hb
            · exact ⟨_, hy.inv_nilp⟩
            · obtain ⟨_, ad, hq, _⟩ := hy.inv_ptr; exact ⟨_, hq⟩
            · obtain ⟨_, _, _, _, _, hq, _⟩ := hy.inv_tptr; exact ⟨_, hq⟩
          obtain ⟨ad, e2⟩ := e2
          rw [e2] at heq ⊢
          exact ⟨hguard _ _ (.inl (by simp)) (.inl (by simp)), hgen _ _ (by simp) (by simp) (by simp) (by simp) heq⟩
        · obtain ⟨_, ad, e1, _⟩ := hx.inv_ptr
          cases q <;> simp at hb
          have e2 := hy.inv_nilp
          rw [e1, e2] at heq ⊢
          exact ⟨hguard _ _ (.inl (by simp)) (.inl (by simp)), hgen _ _ (by simp) (by simp) (by simp) (by simp) heq⟩
        · obtain ⟨_, _, _, _, _, e1, _⟩ := hx.inv_tptr
          cases q <;> simp at hb
          have e2 := hy.inv_nilp
          rw [e1, e2] at heq ⊢
          exact ⟨hguard _ _ (.inl (by simp)) (.inl (by simp)), hgen _ _ (by simp) (by simp) (by simp) (by simp) heq⟩
      · cases p <;> simp at hb
        · obtain ⟨cs, e1, _⟩ := hx.inv_func
          cases q <;> simp at hb
          have e2 := hy.inv_nilf
          rw [e1, e2] at heq ⊢
          exact ⟨hguard _ _ (.inl (by simp)) (.inl (by simp)), hgen _ _ (by simp) (by simp) (by simp) (by simp) heq⟩
        · have e1 := hx.inv_nilf
          have e2 : (∃ f ca cs, a.eval y = .func f ca cs) ∨ a.eval y = .nilFunc := by
            cases q <;> simp at hb
            · obtain ⟨cs, hq, _⟩ := hy.inv_func; exact .inl ⟨_, _, _, hq⟩
            · exact .inr hy.inv_nilf
          rcases e2 with ⟨f, ca, cs, e2⟩ | e2
          all_goals
            rw [e1, e2] at heq ⊢
            exact ⟨hguard _ _ (.inl (by simp)) (.inl (by simp)), hgen _ _ (by simp) (by simp) (by simp) (by simp) heq⟩
      · cases p <;> simp at hb
        · have e1 := hx.inv_nili
          cases q <;> simp at hb
          · have e2 := hy.inv_nili
            rw [e1, e2] at heq ⊢
            have hnil : (Region.isConst x || Region.isConst y) = true := hnil
            exact ⟨eqGuard_nil hnil, hgen _ _ (by simp) (by simp) (by simp) (by simp) heq⟩
          · obtain ⟨dd, e2⟩ := hy.inv_iface
            rw [e1, e2] at heq ⊢
            exact ⟨hguard _ _ (.inr (by simp)) (.inl (by simp)), hgen _ _ (by simp) (by simp) (by simp) (by simp) heq⟩
        · obtain ⟨dd, e1⟩ := hx.inv_iface
          cases q <;> simp at hb
          have e2 := hy.inv_nili
          rw [e1, e2] at heq ⊢
          exact ⟨hguard _ _ (.inl (by simp)) (.inl (by simp)), hgen _ _ (by simp) (by simp) (by simp) (by simp) heq⟩
      · simp at hb
  refine Done.pure s ?_ (.bool _)
  simp only [execOp, ho, Sem.run_bind, key.1, Result.andThen_ok, key.2, Sem.run_pure]
end
end Go.TI
