/- Maps with keys that are numbers, bools, strings; 'string(b)'. -/
import Derived.Test.YtemkchpdcgkeiaaGreatDoorTiOps
import Derived.MapKept
import Derived.Laws.IdiomStrings
set_option linter.unusedVariables false
namespace Go.TI
set_option linter.unusedSimpArgs false
set_option linter.unusedVariables false
open Go.MapKept

theorem bytesOf_inj {s t : List Nat} (hs : ∀ x ∈ s, x < 256) (ht : ∀ x ∈ t, x < 256) (h : bytesOf s = bytesOf t) : s = t := by
  have := bytes_beq hs ht
  rw [h] at this
  have h2 : (bytesOf t == bytesOf t) = true := by rw [bytes_beq ht ht, eqL_eq]; simp
  rw [h2, eqL_eq] at this
  simpa using this.symm

section
variable {P : Program} {cx : Ctx} {base : Nat} {w : World} {μ : Mu} {h h' : H} {mask : Nat} {e : Env} {a : Act} {o : Oper} {hp hp' : Array Obj} {p : T}

theorem hMakeMap_sound (tys : TysOk P cx) {t : TypeId} {x : Option Operand} (s : St cx base w.heap μ h) (ho : o.op = .makeMap t x) {v : T}
    (hh : hMakeMap t x cx mask e h = some (.val v h')) : Done cx base w μ h.size ((execOp a.eval o).run P w) v h' := by
  unfold hMakeMap at hh
  cases x with
  | some y => simp at hh
  | none =>
    simp only at hh
    replace hh := bnd_eq_some.1 hh; obtain ⟨ty, hty, hh⟩ := hh
    cases hut : ty.u <;> rw [hut] at hh <;> simp only [reduceCtorEq] at hh
    rw [valNew_eq_some, H.new_cons] at hh
    simp only [Option.some.injEq, Prod.mk.injEq] at hh
    obtain ⟨rfl, rfl⟩ := hh
    obtain ⟨k1, k2, k3⟩ := s.new (.map #[] 0) ⟨0, w.heap.size, 0, 0⟩ ⟨0, 0, 0, true, true, []⟩ rfl (by
      intro hext
      refine ⟨rfl, rfl, fun k => by simp at k, fun _ => ⟨rfl, .inr ⟨#[], by simp, rfl, fun i x hx => by simp at hx⟩⟩⟩)
    refine ⟨.map (some w.heap.size), { w with heap := w.heap.push (.map #[] 0) }, _, .inl ?_, .map _ _ _ (setMu_same _ _ _) (fun _ => rfl), k1, ⟨k2, rfl, rfl, rfl⟩, k3⟩
    simp [execOp, ho, Instr.makeMap]

theorem keyOk_isKey {d : TypeDesc} {u : U} (hu : uOf P d = some u) {k : T} {c : Value} (hk : keyOk u k = true) (hc : RelV hp μ k c) : IsKey d c := by
  cases u <;> simp only [keyOk, Bool.false_eq_true] at hk
  · have := uOf_int hu; subst this
    cases k <;> simp only [Bool.false_eq_true] at hk
    rw [kEq_eq] at hk; subst hk
    rw [hc.inv_int]; simp [IsKey]
  · have := uOf_bool hu; subst this
    cases k <;> simp only [Bool.false_eq_true] at hk
    rw [hc.inv_bool]; simp [IsKey]
  · have := uOf_str hu; subst this
    cases k <;> simp only [Bool.false_eq_true] at hk
    rw [hc.inv_str.1]; simp [IsKey]

theorem eqCell_key {d : TypeDesc} {u : U} (hu : uOf P d = some u) {k k' : T} {c c' : Value} (hk : keyOk u k = true) (hc : RelV hp μ k c) (hc' : RelV hp μ k' c') {t : Bool} (hh : eqCell u k k' = some t) :
    IsKey d c' ∧ (t = true ↔ c' = c) := by
  cases u <;> simp only [keyOk, Bool.false_eq_true] at hk
  · have := uOf_int hu; subst this
    cases k <;> simp only [Bool.false_eq_true] at hk
    rw [kEq_eq] at hk; subst hk
    cases k' <;> simp only [eqCell, reduceCtorEq] at hh
    obtain ⟨h1, hh2⟩ := chk_eq_some.1 hh
    clear hh
    rw [kEq_eq] at h1
    subst h1
    rw [hc.inv_int, hc'.inv_int]
    replace hh2 := Option.some.inj hh2
    subst hh2
    rw [eqI_eq]
    refine ⟨by simp [IsKey], ?_⟩
    rw [beq_iff_eq]
    constructor
    · intro hq; rw [hq]
    · intro hq; injection hq with _ h2; exact h2.symm
  · have := uOf_bool hu; subst this
    cases k <;> simp only [Bool.false_eq_true] at hk
    cases k' <;> simp only [eqCell, reduceCtorEq] at hh
    rw [hc.inv_bool, hc'.inv_bool]
    rename_i a b
    simp only [Option.some.injEq] at hh
    subst hh
    cases a <;> cases b <;> simp [IsKey]
  · have := uOf_str hu; subst this
    cases k <;> simp only [Bool.false_eq_true] at hk
    cases k' <;> simp only [eqCell, reduceCtorEq] at hh
    obtain ⟨e1, b1⟩ := hc.inv_str
    obtain ⟨e2, b2⟩ := hc'.inv_str
    rw [e1, e2]
    simp only [Option.some.injEq] at hh
    subst hh
    rw [eqL_eq]
    refine ⟨by simp [IsKey], ?_⟩
    simp only [beq_iff_eq, Value.string.injEq]
    constructor
    · intro hq; rw [hq]
    · intro hq; exact (bytesOf_inj b2 b1 hq).symm

/-- A list of entries stands for the model's. -/
def RelM (hp : Array Obj) (μ : Mu) (l : List T) (es : List MapEntry) : Prop :=
  l.length = es.length ∧ ∀ (i : Nat) x, l[i]? = some x → ∃ k v me, x = .tuple [k, v] ∧ es[i]? = some me ∧ RelV hp μ k me.key ∧ RelV hp μ v me.val

theorem findEnt_sound {d : TypeDesc} {u : U} (hu : uOf P d = some u) {k : T} {c : Value} (hk : keyOk u k = true) (hc : RelV hp μ k c) : ∀ (l : List T) (es : List MapEntry) (i : Nat) (r : Option (Nat × T)),
    RelM hp μ l es → findEnt u k l i = some r →
    (r = none ∧ Instr.findNow d c es i = some none) ∨ ∃ j v me, r = some (i + j, v) ∧ Instr.findNow d c es i = some (some (i + j, me.val)) ∧ es[j]? = some me ∧ RelV hp μ v me.val ∧ me.key = c := by
  intro l
  induction l with
  | nil =>
    intro es i r hM hh
    have hes : es = [] := List.eq_nil_of_length_eq_zero hM.1.symm
    subst hes
    have hh : some none = some r := hh
    simp only [Option.some.injEq] at hh
    exact .inl ⟨hh.symm, rfl⟩
  | cons x l ih =>
    intro es i r hM hh
    obtain ⟨k', v', me, rfl, h1, h2, h3⟩ := hM.2 0 x (by simp)
    have hh : (bnd (eqCell u k k') fun t => @Bool.rec (fun _ => Option (Option (Nat × T))) (bnd (normNat (Nat.succ i)) fun i' => findEnt u k l i') (some (some (i, v'))) t) = some r := hh
    replace hh := bnd_eq_some.1 hh; obtain ⟨t, ht, hh⟩ := hh
    obtain ⟨q1, q2⟩ := eqCell_key hu hk hc h2 ht
    cases es with
    | nil => simp at h1
    | cons me' es =>
      simp at h1; subst h1
      obtain ⟨t', s1, s2⟩ := sameNow_of_keys (keyOk_isKey hu hk hc) q1
      have htt : t' = t := by
        rw [Bool.eq_iff_iff]
        exact s2.trans (eq_comm.trans q2.symm)
      subst htt
      cases t' with
      | true =>
        have hh : some (some (i, v')) = some r := hh
        simp only [Option.some.injEq] at hh
        exact .inr ⟨0, v', me', hh.symm, by simp [Instr.findNow, s1], rfl, h3, q2.1 rfl⟩
      | false =>
        have hh : findEnt u k l (i + 1) = some r := by simpa using hh
        have hM' : RelM hp μ l es := ⟨by have := hM.1; simpa using this, fun n y hy => by
          have := hM.2 (n + 1) y (by simpa using hy)
          simpa using this⟩
        rcases ih es (i + 1) r hM' hh with ⟨r1, r2⟩ | ⟨j, v, me, r1, r2, r3, r4, r5⟩
        · exact .inl ⟨r1, by simp [Instr.findNow, s1, r2]⟩
        · refine .inr ⟨j + 1, v, me, by rw [r1]; congr 2; omega, ?_, by simpa using r3, r4, r5⟩
          simp only [Instr.findNow, s1, r2]
          congr 3; omega

theorem MapOk.relM {L : Loc} {l : List T} {es : Array MapEntry} (h2 : es.size = l.length)
    (h3 : ∀ (i : Nat) x, l[i]? = some x → ∃ k v me, x = .tuple [k, v] ∧ es[i]? = some me ∧ me.born = i ∧ RelV hp μ k me.key ∧ RelV hp μ v me.val) : RelM hp μ l es.toList :=
  ⟨by simp [h2], fun i x hx => by
    obtain ⟨k, v, me, g1, g2, g3, g4, g5⟩ := h3 i x hx
    exact ⟨k, v, me, g1, by simpa using g2, g4, g5⟩⟩

/-- A box that is looked at as a map is one. -/
theorem St.mapOf (s : St cx base hp μ h) {b : Nat} {L : Loc} {x : Box} (hb : μ b = some L) (hg : h.get b = some x) (hit : x.it = true) {u : U} {k : T} {r : Option (Nat × T)} (hf : findEnt u k x.elems 0 = some r) :
    L.ep = 0 ∧ x.ep = 0 ∧ MapOk hp μ L x.elems := by
  obtain ⟨y, h1, h2⟩ := s.box b L hb
  rw [hg] at h1; simp only [Option.some.injEq] at h1; subst h1
  obtain ⟨h0, hor⟩ := h2.iter hit
  refine ⟨by rw [← h2.ep]; exact h0, h0, ?_⟩
  rcases hor with ⟨str, pos, he, _⟩ | hm
  · rw [he] at hf
    have hf : (none : Option (Option (Nat × T))) = some r := hf
    simp at hf
  · exact hm

theorem und_map {ty : Ty} {d : TypeDesc} {k e : TypeId} (hu : uOf P d = some ty.u) (hut : ty.u = .map k e) : d = .map k e := by
  rw [hut] at hu
  cases d <;> simp only [uOf] at hu <;> first
    | (simp only [Option.some.injEq, reduceCtorEq] at hu; done)
    | (simp only [Option.some.injEq, U.map.injEq] at hu; obtain ⟨rfl, rfl⟩ := hu; rfl)
    | (split at hu <;> simp at hu)

/-- What a look-up comes to. -/
def lookOut (ok : Bool) (z : Value) (res : Option (Nat × Value)) : Value :=
  match res with
  | some (_, c) => if ok then .tuple #[c, .bool true] else c
  | none => if ok then .tuple #[z, .bool false] else z

theorem hLookup_sound (tys : TysOk P cx) {t : TypeId} {x ix : Operand} {ok : Bool} (s : St cx base w.heap μ h) (r : RelE w.heap μ mask e a.tmps) (ho : o.op = .lookup t x ix ok) {v : T}
    (hh : hLookup t x ix ok cx mask e h = some (.val v h')) : Done cx base w μ h.size ((execOp a.eval o).run P w) v h' := by
  replace hh := bnd_eq_some.1 hh; obtain ⟨ty, hty, hh⟩ := hh
  obtain ⟨d, hd, hu⟩ := und_of (tys.ty _ _ hty)
  cases hut : ty.u <;> rw [hut] at hh <;> simp only [reduceCtorEq] at hh
  rename_i kt et
  have := und_map hu hut; subst this
  replace hh := bnd_eq_some.1 hh; obtain ⟨tk, htk, hh⟩ := hh
  replace hh := bnd_eq_some.1 hh; obtain ⟨te, hte, hh⟩ := hh
  replace hh := bnd_eq_some.1 hh; obtain ⟨p, hp, hh⟩ := hh
  replace hh := bnd_eq_some.1 hh; obtain ⟨k, hk, hh⟩ := hh
  replace hh := chk_eq_some.1 hh; obtain ⟨hko, hh⟩ := hh
  replace hh := bnd_eq_some.1 hh; obtain ⟨es, hes, hh⟩ := hh
  replace hh := bnd_eq_some.1 hh; obtain ⟨rr, hrr, hh⟩ := hh
  obtain ⟨dk, hdk, huk⟩ := und_of (tys.ty _ _ htk)
  have hx := opnd_sound s r hp
  have hkv := opnd_sound s r hk
  have hkey := keyOk_isKey huk hko hkv
  obtain ⟨z, hz, hzr, _⟩ := (tys.ty _ _ hte).zero w
  -- the model's entries
  have hform : ∃ esM : Array MapEntry, RelM w.heap μ es esM.toList ∧
      ((a.eval x = .map none ∧ esM = #[]) ∨ ∃ i clock, a.eval x = .map (some i) ∧ w.heap[i]? = some (.map esM clock)) := by
    unfold H.entries at hes
    cases p <;> simp only [reduceCtorEq] at hes
    · rename_i b
      replace hes := bnd_eq_some.1 hes; obtain ⟨bx, hbx, hes⟩ := hes
      obtain ⟨sz, ep, ver, ex, it, elems⟩ := bx
      replace hes := chk_eq_some.1 hes; obtain ⟨hit, hes⟩ := hes
      simp only [Option.some.injEq] at hes; subst hes
      obtain ⟨L, i, e1, hb, hi⟩ := hx.inv_map
      obtain ⟨l0, _, esM, m1, m2, m3⟩ := s.mapOf hb hbx hit hrr
      exact ⟨esM, MapOk.relM (L := L) m2 m3, .inr ⟨i, esM.size, e1, by rw [hi l0]; exact m1⟩⟩
    · simp only [Option.some.injEq] at hes; subst hes
      exact ⟨#[], ⟨rfl, fun i x hx => by simp at hx⟩, .inl ⟨hx.inv_nilm, rfl⟩⟩
  obtain ⟨esM, hM, hev⟩ := hform
  have hfind := findEnt_sound huk hko hkv es esM.toList 0 rr hM hrr
  have hrun : ∀ res : Option (Nat × Value), Instr.findNow dk (a.eval ix) esM.toList 0 = some res →
      (execOp a.eval o).run P w = .ok (.value (lookOut ok z res)) w := by
    intro res hres
    have hck := fun b => run_checkKey (P := P) (w := w) hdk hkey b 9999
    have hfk := run_findKey (P := P) (w := w) (kt := kt) hdk hres
    have hl : (Instr.lookup t (a.eval x) (a.eval ix) ok).run P w = .ok (lookOut ok z res) w := by
      unfold Instr.lookup
      rcases hev with ⟨e1, rfl⟩ | ⟨i, clock, e1, e2⟩
      · simp only [Sem.run_bind, run_underlying hd, Result.andThen_ok, e1, Sem.run_pure, hck, hfk]
        cases res with
        | none => simp only [Sem.run_bind, hz, Result.andThen_ok, Sem.run_pure, lookOut]
        | some q => obtain ⟨n, c⟩ := q; simp only [Sem.run_bind, Sem.run_pure, Result.andThen_ok, lookOut]
      · simp only [Sem.run_bind, run_underlying hd, Result.andThen_ok, e1, Go.MapKept.run_getObj_map (P := P) e2, Sem.run_pure, hck, hfk]
        cases res with
        | none => simp only [Sem.run_bind, hz, Result.andThen_ok, Sem.run_pure, lookOut]
        | some q => obtain ⟨n, c⟩ := q; simp only [Sem.run_bind, Sem.run_pure, Result.andThen_ok, lookOut]
    simp only [execOp, ho, Sem.run_bind, hl, Result.andThen_ok, Sem.run_pure]
  have tup : ∀ {x y : T} {c d : Value}, RelV w.heap μ x c → RelV w.heap μ y d → RelV w.heap μ (.tuple [x, y]) (.tuple #[c, d]) := by
    intro x y c d h1 h2
    refine .tuple _ _ rfl fun n u hn => ?_
    match n, hn with
    | 0, hn => simp at hn; subst hn; exact h1
    | 1, hn => simp at hn; subst hn; exact h2
    | n + 2, hn => simp at hn
  rcases hfind with ⟨rfl, f1⟩ | ⟨j, u, me, rfl, f1, f2, f3, f4⟩
  · have hr1 := hrun none f1
    simp only at hh
    cases ok with
    | false =>
      have hh : val h (some te.zeroT) = some (.val v h') := hh
      obtain ⟨hv, rfl⟩ := val_eq_some.1 hh
      simp only [Option.some.injEq] at hv; subst hv
      exact Done.pure s hr1 (hzr _ _)
    | true =>
      have hh : val h (some (T.tuple [te.zeroT, .bool false])) = some (.val v h') := hh
      obtain ⟨hv, rfl⟩ := val_eq_some.1 hh
      simp only [Option.some.injEq] at hv; subst hv
      exact Done.pure s hr1 (tup (hzr _ _) (.bool _))
  · have hr1 := hrun _ f1
    simp only [two_mk] at hh
    cases ok with
    | false =>
      have hh : val h (some u) = some (.val v h') := hh
      obtain ⟨hv, rfl⟩ := val_eq_some.1 hh
      simp only [Option.some.injEq] at hv; subst hv
      exact Done.pure s hr1 f3
    | true =>
      have hh : val h (some (T.tuple [u, .bool true])) = some (.val v h') := hh
      obtain ⟨hv, rfl⟩ := val_eq_some.1 hh
      simp only [Option.some.injEq] at hv; subst hv
      exact Done.pure s hr1 (tup f3 (.bool _))

theorem sameBits_key {d : TypeDesc} {c : Value} (hk : IsKey d c) (n : Nat) : Instr.sameBits n c c = true := by
  cases d <;> cases c <;> simp_all [IsKey] <;> simp [Instr.sameBits, Go.MapKept.bytes_beq]

theorem hMapUpdate_sound (tys : TysOk P cx) {t : TypeId} {x ix y : Operand} (s : St cx base w.heap μ h) (r : RelE w.heap μ mask e a.tmps) (ho : o.op = .mapUpdate t x ix y) {v : T}
    (hh : hMapUpdate t x ix y cx mask e h = some (.val v h')) : Done cx base w μ h.size ((execOp a.eval o).run P w) v h' := by
  replace hh := bnd_eq_some.1 hh; obtain ⟨ty, hty, hh⟩ := hh
  obtain ⟨d, hd, hu⟩ := und_of (tys.ty _ _ hty)
  cases hut : ty.u <;> rw [hut] at hh <;> simp only [reduceCtorEq] at hh
  rename_i kt et
  have := und_map hu hut; subst this
  replace hh := bnd_eq_some.1 hh; obtain ⟨tk, htk, hh⟩ := hh
  replace hh := bnd_eq_some.1 hh; obtain ⟨p, hp, hh⟩ := hh
  replace hh := bnd_eq_some.1 hh; obtain ⟨k, hk, hh⟩ := hh
  replace hh := bnd_eq_some.1 hh; obtain ⟨q, hq, hh⟩ := hh
  replace hh := chk_eq_some.1 hh; obtain ⟨hko, hh⟩ := hh
  replace hh := chk_eq_some.1 hh; obtain ⟨hgood, hh⟩ := hh
  have hpm : ∃ b, p = .map b := by cases p <;> first | exact ⟨_, rfl⟩ | (simp at hh)
  obtain ⟨b, rfl⟩ := hpm
  simp only at hh
  replace hh := bnd_eq_some.1 hh; obtain ⟨bx, hbx, hh⟩ := hh
  obtain ⟨sz, ep, ver, ex, it, es⟩ := bx
  simp only at hh
  replace hh := chk_eq_some.1 hh; obtain ⟨hit, hh⟩ := hh
  replace hh := bnd_eq_some.1 hh; obtain ⟨rr, hrr, hh⟩ := hh
  simp only [normNat_eq, bnd_some] at hh
  obtain ⟨dk, hdk, huk⟩ := und_of (tys.ty _ _ htk)
  have hx := opnd_sound s r hp
  have hkv := opnd_sound s r hk
  have hqv := opnd_sound s r hq
  have hkey := keyOk_isKey huk hko hkv
  obtain ⟨L, i, e1, hb, hi⟩ := hx.inv_map
  obtain ⟨l0, x0, esM, m1, m2, m3⟩ := s.mapOf hb hbx hit hrr
  simp only at x0 m2 m3
  have hM := MapOk.relM (L := L) m2 m3
  have hfind := findEnt_sound huk hko hkv es esM.toList 0 rr hM hrr
  have hi := hi l0
  subst hi
  have hck := run_checkKey (P := P) (w := w) hdk hkey false 9999
  have hLlt := s.lt hb
  obtain ⟨yb, hyb1, hyb2⟩ := s.box b L hb
  rw [hbx] at hyb1; simp only [Option.some.injEq] at hyb1; subst hyb1
  have hset : ∀ ob : Obj, (setObj L.blk ob).run P w = .ok () { w with heap := w.heap.setIfInBounds L.blk ob } := fun ob => Go.MapKept.run_setObj_map (P := P) ob m1
  have fin : ∀ {es' : List T} {esM' : Array MapEntry}, h.put b ⟨sz, ep, ver.succ, ex, true, es'⟩ = some h' → esM'.size = es'.length →
      (∀ (i : Nat) x, es'[i]? = some x → ∃ k v me, x = .tuple [k, v] ∧ esM'[i]? = some me ∧ me.born = i ∧ RelV w.heap μ k me.key ∧ RelV w.heap μ v me.val) →
      (execOp a.eval o).run P w = .ok .skip { w with heap := w.heap.setIfInBounds L.blk (.map esM' esM'.size) } → v = .undef → Done cx base w μ h.size ((execOp a.eval o).run P w) v h' := by
    intro es' esM' hput hlen hrel hrun hv
    subst hv
    obtain ⟨k1, k2, k3⟩ := s.change (L' := L) (hp' := w.heap.setIfInBounds L.blk (.map esM' esM'.size)) hb hput (by simp) (by
      intro i hi hne; rw [Array.getElem?_setIfInBounds_ne (Ne.symm hne)]) (.inl rfl) (by
      intro hext
      refine ⟨hyb2.ep, hyb2.sz, fun k => by simp at k, fun _ => ⟨x0, .inr ⟨esM', by simp [hLlt], hlen, fun i x hx => ?_⟩⟩⟩
      obtain ⟨k, v, me, g1, g2, g3, g4, g5⟩ := hrel i x hx
      exact ⟨k, v, me, g1, g2, g3, g4.ext hext, g5.ext hext⟩)
    exact ⟨Go.undef, _, _, .inr ⟨hrun, rfl⟩, .undef, k1, ⟨k2, rfl, rfl, rfl⟩, k3⟩
  rcases hfind with ⟨rfl, f1⟩ | ⟨j, u, me, rfl, f1, f2, f3, f4⟩
  · have hh : (bnd (appN es [.tuple [k, q]]) fun es' => bnd (h.put b ⟨sz, ep, ver.succ, ex, true, es'⟩) fun h' => some (Did.val .undef h')) = some (.val v h') := hh
    rw [appN_eq] at hh
    simp only [bnd_some] at hh
    replace hh := bnd_eq_some.1 hh; obtain ⟨h2, hput, hh⟩ := hh
    simp only [Option.some.injEq, Did.val.injEq] at hh
    obtain ⟨hv, rfl⟩ := hh
    refine fin (esM' := esM.push { key := a.eval ix, val := a.eval y, born := esM.size }) hput (by simp [m2]) (fun n z hz => ?_) ?_ hv.symm
    · by_cases hn : n < es.length
      · rw [List.getElem?_append_left hn] at hz
        obtain ⟨k, v, me, g1, g2, g3, g4, g5⟩ := m3 n z hz
        refine ⟨k, v, me, g1, ?_, g3, g4, g5⟩
        rw [Array.getElem?_push]
        have : n ≠ esM.size := by omega
        simp [this, g2]
      · rw [List.getElem?_append_right (by omega)] at hz
        have hn0 : n = es.length := by
          rcases Nat.eq_or_lt_of_le (Nat.le_of_not_lt hn) with h | h
          · exact h.symm
          · rw [List.getElem?_eq_none (by simp; omega)] at hz; simp at hz
        subst hn0
        simp at hz; subst hz
        exact ⟨k, q, { key := a.eval ix, val := a.eval y, born := esM.size }, rfl, by rw [← m2]; simp, m2, hkv, hqv⟩
    · have hfk := run_findKey (P := P) (w := w) (kt := kt) hdk f1
      simp only [execOp, ho, Instr.mapUpdate, Sem.run_bind, run_underlying hd, Result.andThen_ok, e1, Go.MapKept.run_getObj_map (P := P) m1, hck, hfk, hset, Sem.run_pure]
      simp
  · have hh : (bnd (setNth es (0 + j) (.tuple [k, q])) fun es' => bnd (h.put b ⟨sz, ep, ver.succ, ex, true, es'⟩) fun h' => some (Did.val .undef h')) = some (.val v h') := hh
    rw [Nat.zero_add] at hh f1
    replace hh := bnd_eq_some.1 hh; obtain ⟨es', hes', hh⟩ := hh
    replace hh := bnd_eq_some.1 hh; obtain ⟨h2, hput, hh⟩ := hh
    simp only [Option.some.injEq, Did.val.injEq] at hh
    obtain ⟨hv, rfl⟩ := hh
    rw [setNth_eq] at hes'
    split at hes'
    · rename_i hj
      simp only [Option.some.injEq] at hes'; subst hes'
      have f2' : esM[j]? = some me := by simpa using f2
      refine fin (esM' := esM.modify j fun en => { en with key := a.eval ix, val := a.eval y }) hput (by simp [m2]) (fun n z hz => ?_) ?_ hv.symm
      · rw [Array.getElem?_modify]
        by_cases hn : j = n
        · subst hn
          rw [List.getElem?_set_self hj] at hz
          simp only [Option.some.injEq] at hz; subst hz
          obtain ⟨z0, hz0⟩ : ∃ z0, es[j]? = some z0 := ⟨es[j], by simp [hj]⟩
          obtain ⟨k0, v0, me0, g1, g2, g3, g4, g5⟩ := m3 j z0 hz0
          rw [f2'] at g2; simp only [Option.some.injEq] at g2; subst g2
          exact ⟨k, q, { me with key := a.eval ix, val := a.eval y }, rfl, by simp [f2'], g3, hkv, hqv⟩
        · rw [List.getElem?_set_ne hn] at hz
          obtain ⟨k, v, me, g1, g2, g3, g4, g5⟩ := m3 n z hz
          exact ⟨k, v, me, g1, by simp [hn, g2], g3, g4, g5⟩
      · have hfk := run_findKey (P := P) (w := w) (kt := kt) hdk f1
        have hsame : Instr.sameBits 10000 me.key (a.eval ix) = true := by rw [f4]; exact sameBits_key hkey _
        simp only [execOp, ho, Instr.mapUpdate, Sem.run_bind, run_underlying hd, Result.andThen_ok, e1, Go.MapKept.run_getObj_map (P := P) m1, hck, hfk, Instr.keyThatStays, f2', Option.map_some, Option.getD_some, hsame, if_true, Sem.run_pure, hset]
        simp
    · simp at hes'

/-! ### string(b) -/

theorem byteOf_eq {v : T} {c : Nat} (hh : byteOf v = some c) : v = .int .u8 (.ofNat c) ∧ c < 256 := by
  cases v with
  | int k n =>
    have hh : chk (kEq k .u8) (@Int.rec (fun _ => Option Nat) (fun c => chk (Nat.blt c 256) (some c)) (fun _ => none) n) = some c := hh
    obtain ⟨h1, hh2⟩ := chk_eq_some.1 hh
    rw [kEq_eq] at h1; subst h1
    cases n with
    | ofNat m =>
      have hh2 : chk (Nat.blt m 256) (some m) = some c := hh2
      obtain ⟨h2, hh3⟩ := chk_eq_some.1 hh2
      rw [Nat.blt_eq] at h2
      simp only [Option.some.injEq] at hh3; subst hh3
      exact ⟨rfl, h2⟩
    | negSucc m => simp at hh2
  | _ => simp [byteOf] at hh

theorem strT_sound (tys : TysOk P cx) {src dst : TypeId} {x : Operand} (s : St cx base w.heap μ h) (r : RelE w.heap μ mask e a.tmps) (ho : o.op = .convert src dst x) (hdst : P.underlying dst = some .string) {v : T}
    (hp : opnd cx mask e x = some p) (hv : strT cx h src p = some v) (hh : h' = h) : Done cx base w μ h.size ((execOp a.eval o).run P w) v h' := by
  subst hh
  replace hv := bnd_eq_some.1 hv; obtain ⟨ty, hty, hv⟩ := hv
  obtain ⟨d, hd, hu⟩ := und_of (tys.ty _ _ hty)
  cases hut : ty.u <;> rw [hut] at hv hu <;> simp only [reduceCtorEq] at hv
  rename_i el
  have := uOf_slice hu; subst this
  replace hv := bnd_eq_some.1 hv; obtain ⟨te, hte, hv⟩ := hv
  obtain ⟨de, hde, hue⟩ := und_of (tys.ty _ _ hte)
  cases hute : te.u <;> rw [hute] at hv hue <;> simp only [reduceCtorEq] at hv
  rename_i k
  replace hv := chk_eq_some.1 hv; obtain ⟨hk, hv⟩ := hv
  rw [kEq_eq] at hk; subst hk
  have := uOf_int hue; subst this
  replace hv := bnd_eq_some.1 hv; obtain ⟨es, hes, hv⟩ := hv
  replace hv := bnd_eq_some.1 hv; obtain ⟨bs, hbs, hv⟩ := hv
  replace hv := chk_eq_some.1 hv; obtain ⟨_, hv⟩ := hv
  simp only [Option.some.injEq] at hv; subst hv
  obtain ⟨sz, it⟩ := items_sound (P := P) s (opnd_sound s r hp) hes
  obtain ⟨ad, cap, news, e1, hcap, hL, hone, hcells⟩ := it.form
  obtain ⟨hlen, hby⟩ := mapOpt_eq_some.1 hbs
  have hees : es = bs.map fun c => T.int .u8 (.ofNat c) := by
    apply List.ext_getElem?
    intro j
    rw [List.getElem?_map]
    cases hj : es[j]? with
    | none =>
      have : bs[j]? = none := by
        rw [List.getElem?_eq_none_iff] at hj ⊢; omega
      rw [this]; rfl
    | some z =>
      obtain ⟨c, hc, hf⟩ := hby j z hj
      rw [hc, (byteOf_eq hf).1]; rfl
  have hb256 : ∀ c ∈ bs, c < 256 := by
    intro c hc
    obtain ⟨j, hj⟩ := List.mem_iff_getElem?.1 hc
    have hjl : j < es.length := by
      rw [hlen]
      rcases Nat.lt_or_ge j bs.length with y | y
      · exact y
      · rw [List.getElem?_eq_none y] at hj; simp at hj
    obtain ⟨c', hc', hf⟩ := hby j es[j] (by simp [hjl])
    rw [hj] at hc'; simp only [Option.some.injEq] at hc'; subst hc'
    exact (byteOf_eq hf).2
  have hrel : RelV w.heap μ (.str bs) (.string (bytesOf bs)) := .str bs hb256
  rw [hees, flat_ints] at hL
  have hnews : ∀ (j : Nat) c, bs[j]? = some c → news[j]? = some (.int .u8 (c : Int)) := by
    intro j c hj
    obtain ⟨u, hu1, hu2⟩ := hL.get (k := j) (v := .int .u8 (.ofNat c)) (by simp [hj])
    rw [hu1, hu2.inv_int]; rfl
  have hdone : (convert src dst (a.eval x)).run P w = .ok (.string (bytesOf bs)) w := by
    rw [e1]
    rcases hcells with ⟨rfl, hnil⟩ | ⟨y, rfl, hc⟩
    · have hb0 : bs = [] := by
        have := hlen; rw [hnil] at this; simp at this; exact List.eq_nil_of_length_eq_zero this.symm
      subst hb0
      rw [hnil]
      rw [run_convert_bytes_string w src dst el none _ cap hd hde hdst]
      simp [Conv.bytesToString]
      rfl
    · have hl : es.length = (bs.map UInt8.ofNat).length := by simp [hlen]
      rw [hl]
      have := run_convert_bytes_back (P := P) w src dst el y cap (bs.map UInt8.ofNat) hd hde hdst (by
        intro j hj
        simp only [List.length_map] at hj
        have hbj : bs[j]? = some bs[j] := by simp [hj]
        rw [hc j _ (hnews j _ hbj)]
        simp only [List.getElem_map]
        rw [toNat_ofNat_lt (hb256 _ (List.getElem_mem hj))])
      rw [this]
      rfl
  exact Done.pure s (by simp only [execOp, ho, Sem.run_bind, hdone, Result.andThen_ok, Sem.run_pure]) hrel
end
end Go.TI
