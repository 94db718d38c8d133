/- Reading, part 3: lengths, slices of slices, conversions. -/
import Derived.Test.YtemkchpdcgkeiaaGreatDoorTiRead2
namespace Go.TI
set_option linter.unusedSimpArgs false
set_option linter.unusedVariables false
section
variable {P : Program} {cx : Ctx} {base : Nat} {w : World} {μ : Mu} {h : H} {mask : Nat} {e : Env} {a : Act} {o : Oper} {hp : Array Obj}

theorem hConv_sound (tys : TysOk P cx) {src dst : TypeId} {x : Operand} (s : St cx base w.heap μ h) (r : RelE w.heap μ mask e a.tmps) (ho : o.op = .convert src dst x) {v : T} {h' : H} {p : T}
    (hsrc : ∃ ty, cx.ty src = some ty) (hp : opnd cx mask e x = some p) (hv : conv cx dst p = some v) (hh : h' = h) : Done cx base w μ h.size ((execOp a.eval o).run P w) v h' := by
  subst hh
  obtain ⟨ts, hsrc⟩ := hsrc
  obtain ⟨ds, hds, _⟩ := und_of (tys.ty _ _ hsrc)
  replace hv := bnd_eq_some.1 hv; obtain ⟨ty, hty, hv⟩ := hv
  obtain ⟨d, hd, hu⟩ := und_of (tys.ty _ _ hty)
  have hx := opnd_sound s r hp
  cases hut : ty.u <;> rw [hut] at hv hu <;> simp at hv
  · have := uOf_int hu; subst this
    cases p <;> simp at hv
    subst hv
    exact Done.pure s (by simp [execOp, ho, convert, run_underlying hds, run_underlying hd, hx.inv_int, Conv.intToInt]) (.int _ _)
  · have := uOf_str hu; subst this
    cases p <;> simp at hv
    subst hv
    obtain ⟨e1, b1⟩ := hx.inv_str
    exact Done.pure s (by simp [execOp, ho, convert, run_underlying hds, run_underlying hd, e1]) (.str _ b1)

theorem optIdx_sound {x : Option Operand} {n : Option Nat} (s : St cx base w.heap μ h) (r : RelE w.heap μ mask e a.tmps) (hh : optIdx cx mask e x = some n) :
    (x = none ∧ n = none) ∨ ∃ op k m, x = some op ∧ n = some m ∧ a.eval op = .int k (m : Nat) := by
  cases x with
  | none => left; simp [optIdx] at hh; exact ⟨rfl, hh.symm⟩
  | some op =>
    right
    have hh : (bnd (opnd cx mask e op) fun v => bnd (toIdx v) fun n => some (some n)) = some n := hh
    replace hh := bnd_eq_some.1 hh; obtain ⟨v, hv, hh⟩ := hh
    replace hh := bnd_eq_some.1 hh; obtain ⟨m, hm, hh⟩ := hh
    simp at hh; subst hh
    obtain ⟨k, hk⟩ := toIdx_eq_some hm
    exact ⟨op, k, m, rfl, rfl, (hk ▸ opnd_sound s r hv).inv_int⟩

theorem run_sliceBound {v : Value} {k : IntKind} {m : Nat} (hv : v = .int k (m : Nat)) {y : Nat} (hle : m ≤ y) (code : BoundsCode) : (Instr.sliceBound v y code).run P w = .ok m w := by
  subst hv
  have h1 : 0 ≤ ((m : Nat) : Int) ∧ ((m : Nat) : Int) ≤ (y : Int) := ⟨by omega, by omega⟩
  simp only [Instr.sliceBound, asIntOf, Sem.run_bind, Sem.run_pure, Result.andThen_ok, h1, and_self, if_true]
  simp

/-- The bounds of a slice expression, where they stand. -/
theorem run_sliceBounds {isS : Bool} {len cap : Nat} {lo hi mx : Option Operand} {nlo nhi nmx : Option Nat}
    (h1 : (lo = none ∧ nlo = none) ∨ ∃ op k m, lo = some op ∧ nlo = some m ∧ a.eval op = .int k (m : Nat)) (h2 : (hi = none ∧ nhi = none) ∨ ∃ op k m, hi = some op ∧ nhi = some m ∧ a.eval op = .int k (m : Nat))
    (h3 : (mx = none ∧ nmx = none) ∨ ∃ op k m, mx = some op ∧ nmx = some m ∧ a.eval op = .int k (m : Nat)) (hmx : ∀ m, nmx = some m → m ≤ cap ∧ nhi = some m) (hl : optD nlo 0 ≤ optD nhi len) (hh : optD nhi len ≤ len) (hc : len ≤ cap) :
    (Instr.sliceBounds isS len cap (lo.map a.eval) (hi.map a.eval) (mx.map a.eval)).run P w = .ok (optD nlo 0, optD nhi len, optD nmx cap) w := by
  rcases h3 with ⟨rfl, rfl⟩ | ⟨op3, k3, m3, rfl, rfl, e3⟩
  · rcases h2 with ⟨rfl, rfl⟩ | ⟨op2, k2, m2, rfl, rfl, e2⟩
    · rcases h1 with ⟨rfl, rfl⟩ | ⟨op1, k1, m1, rfl, rfl, e1⟩
      · simp [Instr.sliceBounds, optD]
      · have hl : m1 ≤ len := hl
        simp [Instr.sliceBounds, optD, run_sliceBound e1 hl]
    · have hh : m2 ≤ len := hh
      have hh2 : m2 ≤ cap := by omega
      rcases h1 with ⟨rfl, rfl⟩ | ⟨op1, k1, m1, rfl, rfl, e1⟩
      · simp [Instr.sliceBounds, optD, run_sliceBound e2 hh2]
      · have hl : m1 ≤ m2 := hl
        simp [Instr.sliceBounds, optD, run_sliceBound e2 hh2, run_sliceBound e1 hl]
  · obtain ⟨hm, hnh⟩ := hmx m3 rfl
    rcases h2 with ⟨rfl, rfl⟩ | ⟨op2, k2, m2, rfl, rfl, e2⟩
    · simp at hnh
    · simp at hnh; subst hnh
      rcases h1 with ⟨rfl, rfl⟩ | ⟨op1, k1, m1, rfl, rfl, e1⟩
      · simp [Instr.sliceBounds, optD, run_sliceBound e2 (Nat.le_refl _), run_sliceBound e3 hm]
      · have hl : m1 ≤ m2 := hl
        simp [Instr.sliceBounds, optD, run_sliceBound e2 (Nat.le_refl _), run_sliceBound e3 hm, run_sliceBound e1 hl]

theorem optD_none (d : Nat) : optD none d = d := rfl

theorem cutL_eq_some {α : Type} {l r : List α} {lo hi : Nat} (hle : lo ≤ hi) (hh : cutL l lo hi = some r) : hi ≤ l.length ∧ r = (l.drop lo).take (hi - lo) := by
  unfold cutL at hh
  obtain ⟨q, h1, h2⟩ := bnd_eq_some.1 hh
  rw [dropN_eq] at h1
  split at h1
  · simp at h1; subst h1
    rw [takeN_eq] at h2
    split at h2
    · rename_i hq
      simp at hq h2
      refine ⟨?_, h2.symm⟩
      omega
    · simp at h2
  · simp at h1

theorem flat_cut {sz : Nat} {es : List T} (hu : ∀ v ∈ es, v.cells.length = sz) (lo n : Nat) : flat ((es.drop lo).take n) = ((flat es).drop (lo * sz)).take (n * sz) := by
  rw [flat_drop hu, flat_take (fun v hv => hu v (List.mem_of_mem_drop hv))]

/-- A part of a tree is a tree. -/
theorem tree_cut {x : T} {es : List T} {blk off sz : Nat} {arr : Array Value} {t : TypeId} {fz : Nat × Nat} {lo hi : Nat} {y : T} {ys : List T} {full : Bool} {cap : Nat} (hn : ¬ InMu μ blk) (hh : hp[blk]? = some (.cells arr t fz))
    (hu : ∀ v ∈ x :: es, v.cells.length = sz) (hs : off + (flat (x :: es)).length ≤ arr.size) (hc : ∀ v ∈ flat (x :: es), Shut v)
    (hr : ∀ (k : Nat) v, (flat (x :: es))[k]? = some v → RelV hp μ v (arr.getD (off + k) Go.undef)) (hlo : lo ≤ hi) (hhi : hi ≤ (x :: es).length) (hy : y :: ys = ((x :: es).drop lo).take (hi - lo))
    (hcap : hi - lo ≤ cap) (hf : full = true → cap = hi - lo) : RelV hp μ (.tree (y :: ys) full) (.slice (some ⟨blk, off + lo * sz, none⟩) (hi - lo) cap) := by
  have hlen : ys.length + 1 = hi - lo := by
    have := congrArg List.length hy
    simp only [List.length_cons, List.length_take, List.length_drop] at this
    simp only [List.length_cons] at hhi
    omega
  have hfl := flat_length hu
  have hcut := flat_cut hu lo (hi - lo)
  rw [← hy] at hcut
  have hmem : ∀ v ∈ y :: ys, v ∈ x :: es := fun v hv => List.mem_of_mem_drop (List.mem_of_mem_take (hy ▸ hv))
  rw [← hlen]
  refine .tree y ys full blk (off + lo * sz) cap sz arr t fz hn hh (by omega) (fun k => by rw [hf k]; omega) (fun v hv => hu v (hmem v hv)) ?_ ?_ ?_
  · rw [hcut]
    simp only [List.length_take, List.length_drop]
    have : lo * sz + (hi - lo) * sz ≤ (flat (x :: es)).length := by
      rw [hfl, ← Nat.add_mul]
      exact Nat.mul_le_mul_right _ (by omega)
    omega
  · intro v hv
    rw [hcut] at hv
    exact hc v (List.mem_of_mem_drop (List.mem_of_mem_take hv))
  · intro k v hv
    rw [hcut, List.getElem?_take] at hv
    split at hv
    · rw [List.getElem?_drop] at hv
      have := hr _ v hv
      rwa [← Nat.add_assoc] at this
    · simp at hv

theorem bytesOf_extract (str : List Nat) (l n : Nat) : (bytesOf str).extract l n = bytesOf ((str.drop l).take (n - l)) := by
  apply ByteArray.ext
  have : ((bytesOf str).extract l n).data.toList = ((bytesOf str).data.toList.drop l).take (n - l) := Lib.extract_data _ _ _
  apply Array.ext'
  rw [this]
  simp [bytesOf, List.map_take, List.map_drop]

theorem slice_array (tys : TysOk P cx) {t : TypeId} {x : Operand} {lo hi mx : Option Operand} (s : St cx base w.heap μ h) (ho : o.op = .slice t x lo hi mx) {n : Nat} {el : TypeId} (hd : P.underlying t = some (.array n el)) {p : T}
    (hx : RelV w.heap μ p (a.eval x)) {nlo nhi nmx : Option Nat}
    (q1 : (lo = none ∧ nlo = none) ∨ ∃ op k m, lo = some op ∧ nlo = some m ∧ a.eval op = .int k (m : Nat)) (q2 : (hi = none ∧ nhi = none) ∨ ∃ op k m, hi = some op ∧ nhi = some m ∧ a.eval op = .int k (m : Nat))
    (q3 : (mx = none ∧ nmx = none) ∨ ∃ op k m, mx = some op ∧ nmx = some m ∧ a.eval op = .int k (m : Nat)) (hok : mxOk nhi nmx = true) (hsl : sliceable cx h (.array n el) p = true) {v : T}
    (hv : sliceT (asSlice (.array n el) p) nlo nhi nmx = some v) : Done cx base w μ h.size ((execOp a.eval o).run P w) v h := by
  unfold sliceable at hsl
  simp only at hsl
  cases hte : cx.ty el with
  | none => rw [hte] at hsl; simp at hsl
  | some te =>
    rw [hte] at hsl
    have hsz := (tys.ty _ _ hte).run_sizeOf w
    have hp : ∃ b ep i0 j, p = .ptr b ep i0 j := by cases p <;> first | exact ⟨_, _, _, _, rfl⟩ | (simp at hsl)
    obtain ⟨b, ep, i0, j, rfl⟩ := hp
    simp only at hsl
    cases hg : h.get b with
    | none => rw [hg] at hsl; simp at hsl
    | some bx =>
      rw [hg] at hsl
      obtain ⟨sz, ep', ver, ex, it, elems⟩ := bx
      simp only [Bool.and_eq_true, Bool.not_eq_true'] at hsl
      obtain ⟨⟨⟨⟨⟨⟨k1, k2⟩, k3⟩, k4⟩, k5⟩, k6⟩, k7⟩ := hsl
      have k1 := Nat.eq_of_beq_eq_true k1
      have k2 := Nat.eq_of_beq_eq_true k2
      have k3 := Nat.eq_of_beq_eq_true k3
      have k4 := Nat.eq_of_beq_eq_true k4
      have k7 := Nat.eq_of_beq_eq_true k7
      rw [lenN_eq] at k7
      subst k3 k4 k5 k6
      obtain ⟨L, ad, hq', hb, hep, ha⟩ := hx.inv_ptr
      obtain ⟨bx, hbx, hbok⟩ := s.box b L hb
      rw [hg] at hbx
      simp only [Option.some.injEq] at hbx
      subst hbx
      have e1 : ep' = L.ep := hbok.ep
      have e2 : sz = L.sz := hbok.sz
      have e3 : L.cap = elems.length := (hbok.plain rfl).exact_ rfl
      have hadr := ha (by omega)
      simp at hadr
      subst hadr
      have hv : sliceArr b ep 0 n false (optD nlo 0) (optD nhi n) nmx = some v := hv
      unfold sliceArr at hv
      replace hv := chk_eq_some.1 hv; obtain ⟨hle, hv⟩ := hv
      replace hv := chk_eq_some.1 hv; obtain ⟨hhl, hv⟩ := hv
      have hle := Nat.le_of_ble_eq_true hle
      have hhl := Nat.le_of_ble_eq_true hhl
      simp only [normNat_eq, bnd_some, Nat.add_eq, Nat.zero_add, Nat.sub_eq] at hv
      have hrun : (∀ m, nmx = some m → m = optD nhi n) →
          (execOp a.eval o).run P w = .ok (.value (.slice (some (if optD nmx n = optD nlo 0 then ⟨L.blk, 0, none⟩ else (⟨L.blk, 0, none⟩ : Addr).add (optD nlo 0 * te.size))) (optD nhi n - optD nlo 0) (optD nmx n - optD nlo 0))) w := by
        intro h3
        have hb := run_sliceBounds (P := P) (w := w) (isS := false) (len := n) (cap := n) q1 q2 q3 (by
          intro m hm
          have hmm := h3 m hm
          cases nhi with
          | none => subst hm; simp [mxOk] at hok
          | some k =>
            have hmm : m = k := hmm
            subst hmm
            have h2 : m ≤ n := hhl
            exact ⟨by omega, rfl⟩) hle hhl (Nat.le_refl _)
        simp [execOp, ho, Instr.sliceAt, run_underlying hd, hq', Instr.sureAddr, hb, hsz]
      have hadd : ∀ c : Nat, (⟨L.blk, 0, none⟩ : Addr).add (c * te.size) = ⟨L.blk, c * L.sz, none⟩ := by
        intro c
        rw [add_none, ← k1, e2]; simp
      cases hnm : nmx with
      | none =>
        subst hnm
        have hres := hrun (by simp)
        have hv : some (T.arr b ep (optD nlo 0) (optD nhi n - optD nlo 0) false) = some v := hv
        simp only [Option.some.injEq] at hv; subst hv
        refine Done.pure s hres (.arr _ _ _ _ _ L _ _ hb hep ?_ fun he => ⟨by simp, fun _ => ?_, fun hne => ?_⟩)
        · show optD nhi n - optD nlo 0 ≤ n - optD nlo 0; omega
        · show optD nlo 0 + (n - optD nlo 0) = L.cap; omega
        · have hne : n - optD nlo 0 ≠ 0 := hne
          have h0 : ¬ optD none n = optD nlo 0 := by show ¬ n = optD nlo 0; omega
          rw [if_neg h0, hadd]
      | some m =>
        subst hnm
        have hv : chk (Nat.beq m (optD nhi n)) (some (T.arr b ep (optD nlo 0) (optD nhi n - optD nlo 0) true)) = some v := hv
        replace hv := chk_eq_some.1 hv; obtain ⟨hmm, hv⟩ := hv
        have hmm := Nat.eq_of_beq_eq_true hmm
        simp only [Option.some.injEq] at hv; subst hv
        have hres := hrun (by intro k hk; simp at hk; omega)
        have hom : optD (some m) n = optD nhi n := hmm
        rw [hom] at hres
        refine Done.pure s hres (.arr _ _ _ _ _ L _ _ hb hep (Nat.le_refl _) fun he => ⟨fun _ => rfl, by simp, fun hne => ?_⟩)
        have h0 : ¬ optD nhi n = optD nlo 0 := by omega
        rw [if_neg h0, hadd]

theorem hSlice_sound (tys : TysOk P cx) {t : TypeId} {x : Operand} {lo hi mx : Option Operand} (s : St cx base w.heap μ h) (r : RelE w.heap μ mask e a.tmps) (ho : o.op = .slice t x lo hi mx) {v : T} {h' : H}
    (hh : hSlice t x lo hi mx cx mask e h = some (.val v h')) : Done cx base w μ h.size ((execOp a.eval o).run P w) v h' := by
  replace hh := bnd_eq_some.1 hh; obtain ⟨ty, hty, hh⟩ := hh
  replace hh := bnd_eq_some.1 hh; obtain ⟨p, hp, hh⟩ := hh
  replace hh := chk_eq_some.1 hh; obtain ⟨hsl, hh⟩ := hh
  replace hh := bnd_eq_some.1 hh; obtain ⟨nlo, hlo, hh⟩ := hh
  replace hh := bnd_eq_some.1 hh; obtain ⟨nhi, hhi, hh⟩ := hh
  replace hh := bnd_eq_some.1 hh; obtain ⟨nmx, hmx, hh⟩ := hh
  replace hh := chk_eq_some.1 hh; obtain ⟨hok, hh⟩ := hh
  obtain ⟨hv, rfl⟩ := val_eq_some.1 hh
  have q1 := optIdx_sound s r hlo
  have q2 := optIdx_sound s r hhi
  have q3 := optIdx_sound s r hmx
  obtain ⟨d, hd, hu⟩ := und_of (tys.ty _ _ hty)
  have hx := opnd_sound s r hp
  by_cases harr : ∃ n el, ty.u = .array n el
  · obtain ⟨n, el, hut⟩ := harr
    rw [hut] at hsl hu hv
    have := uOf_array hu; subst this
    exact slice_array tys s ho hd hx q1 q2 q3 hok hsl hv
  unfold sliceable at hsl
  cases hut : ty.u <;> rw [hut] at hsl hu hv <;> (try simp at hsl)
  · -- a string
    have := uOf_str hu; subst this
    replace hv : sliceT p nlo nhi nmx = some v := hv
    cases p <;> simp at hsl
    rename_i str
    obtain ⟨e1, b1⟩ := hx.inv_str
    unfold sliceT at hv
    cases hnm : nmx with
    | some m => rw [hnm] at hv; simp at hv
    | none =>
      subst hnm
      have hv : chk (Nat.ble (optD nlo 0) (optD nhi (lenN str))) (bnd (cutL str (optD nlo 0) (optD nhi (lenN str))) fun r => some (T.str r)) = some v := hv
      rw [lenN_eq] at hv
      replace hv := chk_eq_some.1 hv; obtain ⟨hle, hv⟩ := hv
      have hle := Nat.le_of_ble_eq_true hle
      replace hv := bnd_eq_some.1 hv; obtain ⟨q, hq, hv⟩ := hv
      obtain ⟨hlen, rfl⟩ := cutL_eq_some hle hq
      simp at hv; subst hv
      have hmn : mx = none := by rcases q3 with ⟨k, _⟩ | ⟨_, _, _, _, k, _⟩; exact k; simp at k
      subst hmn
      have hb := run_sliceBounds (P := P) (w := w) (isS := false) (len := str.length) (cap := str.length) q1 q2 q3 (by simp) hle hlen (Nat.le_refl _)
      simp only [Option.map_none] at hb
      refine Done.pure (c := .string ((bytesOf str).extract (optD nlo 0) (optD nhi str.length))) s ?_ ?_
      · simp [execOp, ho, Instr.sliceAt, Instr.slice, run_underlying hd, e1, size_bytesOf, hb]
      · rw [bytesOf_extract]
        exact .str _ fun c hc => b1 c (List.mem_of_mem_drop (List.mem_of_mem_take hc))
  · rename_i el
    have := uOf_slice hu; subst this
    replace hv : sliceT p nlo nhi nmx = some v := hv
    cases hte : cx.ty el with
    | none => rw [hte] at hsl; simp at hsl
    | some te =>
      rw [hte] at hsl
      have hsz := (tys.ty _ _ hte).run_sizeOf w
      have hmxok : ∀ m, nmx = some m → nhi.isSome = true := by
        intro m hm; subst hm
        cases nhi with
        | none => simp [mxOk] at hok
        | some k => rfl
      -- what the model does
      have hrun : ∀ (ad : Option Addr) (len cap : Nat), a.eval x = .slice ad len cap → len ≤ cap → optD nlo 0 ≤ optD nhi len → optD nhi len ≤ len → (∀ m, nmx = some m → m = optD nhi len) →
          (execOp a.eval o).run P w = .ok (.value (.slice (if optD nmx cap = optD nlo 0 then ad else ad.map (·.add (optD nlo 0 * te.size))) (optD nhi len - optD nlo 0) (optD nmx cap - optD nlo 0))) w := by
        intro ad len cap he hc h1 h2 h3
        have hb := run_sliceBounds (P := P) (w := w) (isS := true) (len := len) (cap := cap) q1 q2 q3 (by
          intro m hm
          have hs := hmxok m hm
          have hmm := h3 m hm
          cases nhi with
          | none => simp at hs
          | some k =>
            have hmm : m = k := hmm
            subst hmm
            have h2 : m ≤ len := h2
            exact ⟨by omega, rfl⟩) h1 h2 hc
        simp [execOp, ho, Instr.sliceAt, Instr.slice, run_underlying hd, he, hb, hsz]
      unfold sliceT at hv
      cases p <;> simp at hsl
      · rename_i es full
        have hv : sliceTree es full (optD nlo 0) (optD nhi es.length) nmx = some v := by rw [← lenN_eq]; exact hv
        unfold sliceTree at hv
        replace hv := chk_eq_some.1 hv; obtain ⟨hle, hv⟩ := hv
        have hle := Nat.le_of_ble_eq_true hle
        replace hv := bnd_eq_some.1 hv; obtain ⟨q, hq, hv⟩ := hv
        obtain ⟨hlen, hqq⟩ := cutL_eq_some hle hq
        cases es with
        | nil =>
          obtain ⟨ad, e1⟩ := hx.inv_tree0
          have hq0 : q = [] := by rw [hqq]; simp
          rw [hq0] at hv
          have hhi0 : optD nhi 0 = 0 := by simpa using hlen
          have hlo0 : optD nlo 0 = 0 := by simp only [List.length_nil] at hle; omega
          cases hnm : nmx with
          | none =>
            subst hnm
            have hv : some (T.tree [] false) = some v := hv
            simp at hv; subst hv
            have := hrun ad 0 0 e1 (Nat.le_refl _) (by omega) (by omega) (by simp)
            refine Done.pure s this ?_
            rw [hlo0, hhi0, optD_none]
            exact .tree0 _ _
          | some m =>
            subst hnm
            have hv : chk (Nat.beq m (optD nhi 0)) (some (T.tree [] false)) = some v := hv
            replace hv := chk_eq_some.1 hv; obtain ⟨hmm, hv⟩ := hv
            have hmm := Nat.eq_of_beq_eq_true hmm
            simp at hv; subst hv
            have := hrun ad 0 0 e1 (Nat.le_refl _) (by omega) (by omega) (by intro k hk; simp at hk; omega)
            refine Done.pure s this ?_
            have hm0 : optD (some m) 0 = 0 := by show m = 0; omega
            rw [hlo0, hhi0, hm0]
            exact .tree0 _ _
        | cons x0 es =>
          obtain ⟨blk, off, cap, sz, arr, t', fz, e1, hn, hh', hl', hf, huu, hs, hc, hr⟩ := hx.inv_tree
          have hszz : sz = te.size := by
            have hsl : Nat.beq (lenN x0.cells) te.size = true := hsl
            have := Nat.eq_of_beq_eq_true hsl
            rw [lenN_eq] at this
            rw [← this]; exact (huu x0 (by simp)).symm
          have hlen' : optD nhi (es.length + 1) ≤ es.length + 1 := by simpa using hlen
          have hle' : optD nlo 0 ≤ optD nhi (es.length + 1) := by simpa using hle
          cases hnm : nmx with
          | none =>
            subst hnm
            have hres := hrun _ _ _ e1 hl' hle' hlen' (by simp)
            cases q with
            | nil =>
              have hv : some T.ewild = some v := hv
              simp at hv; subst hv
              have hz : optD nhi (es.length + 1) - optD nlo 0 = 0 := by
                have := congrArg List.length hqq
                simp only [List.length_nil, List.length_take, List.length_drop, List.length_cons] at this
                omega
              rw [hz] at hres
              exact Done.pure s hres (.ewild _ _)
            | cons y ys =>
              have hv : some (T.tree (y :: ys) (@Bool.rec (fun _ => Bool) false (Nat.beq (optD nhi (x0 :: es).length) (lenN (x0 :: es))) full)) = some v := hv
              have hpos : optD nlo 0 < optD nhi (es.length + 1) := by
                have := congrArg List.length hqq
                simp only [List.length_cons, List.length_take, List.length_drop] at this
                omega
              have hne : ¬ cap = optD nlo 0 := by omega
              simp only [optD_none, hne, if_false, Option.map_some, add_none] at hres
              refine Done.pure s hres ?_
              simp only [Option.some.injEq] at hv
              rw [← hv, ← hszz]
              have := tree_cut (full := @Bool.rec (fun _ => Bool) false (Nat.beq (optD nhi (x0 :: es).length) (lenN (x0 :: es))) full) (cap := cap - optD nlo 0) hn hh' huu hs hc hr hle' (by simpa using hlen') hqq (by omega) (by
                intro hb
                cases full with
                | false => simp at hb
                | true =>
                  have hb : Nat.beq (optD nhi (x0 :: es).length) (lenN (x0 :: es)) = true := hb
                  have := Nat.eq_of_beq_eq_true hb
                  rw [lenN_eq] at this
                  simp only [List.length_cons] at this
                  rw [hf rfl, this])
              exact this
          | some m =>
            subst hnm
            have hv : chk (Nat.beq m (optD nhi (x0 :: es).length)) (@List.rec T (fun _ => Option T) (some (T.tree [] false)) (fun _ _ _ => some (T.tree q true)) q) = some v := hv
            replace hv := chk_eq_some.1 hv; obtain ⟨hmm, hv⟩ := hv
            have hmm := Nat.eq_of_beq_eq_true hmm
            simp only [List.length_cons] at hmm
            have hres := hrun _ _ _ e1 hl' hle' hlen' (by intro k hk; simp at hk; omega)
            have hom : optD (some m) cap = optD nhi (es.length + 1) := hmm
            rw [hom] at hres
            cases q with
            | nil =>
              have hv : some (T.tree [] false) = some v := hv
              simp at hv; subst hv
              have hz : optD nhi (es.length + 1) - optD nlo 0 = 0 := by
                have := congrArg List.length hqq
                simp only [List.length_nil, List.length_take, List.length_drop, List.length_cons] at this
                omega
              rw [hz] at hres
              exact Done.pure s hres (.tree0 _ _)
            | cons y ys =>
              have hv : some (T.tree (y :: ys) true) = some v := hv
              have hpos : optD nlo 0 < optD nhi (es.length + 1) := by
                have := congrArg List.length hqq
                simp only [List.length_cons, List.length_take, List.length_drop] at this
                omega
              have hne : ¬ optD nhi (es.length + 1) = optD nlo 0 := by omega
              simp only [hne, if_false, Option.map_some, add_none] at hres
              refine Done.pure s hres ?_
              simp only [Option.some.injEq] at hv
              rw [← hv, ← hszz]
              exact tree_cut hn hh' huu hs hc hr hle' (by simpa using hlen') hqq (Nat.le_refl _) (fun _ => rfl)
      · -- an empty slice
        obtain ⟨ad, cap, e1⟩ := hx.inv_ewild
        have hv : chk (Nat.beq (optD nlo 0) 0) (chk (Nat.beq (optD nhi 0) 0) (@Option.rec Nat (fun _ => Option T) (some T.ewild) (fun m => chk (Nat.beq m 0) (some (T.tree [] false))) nmx)) = some v := hv
        replace hv := chk_eq_some.1 hv; obtain ⟨h1, hv⟩ := hv
        replace hv := chk_eq_some.1 hv; obtain ⟨h2, hv⟩ := hv
        have h1 := Nat.eq_of_beq_eq_true h1
        have h2 := Nat.eq_of_beq_eq_true h2
        cases hnm : nmx with
        | none =>
          subst hnm
          have hv : some T.ewild = some v := hv
          simp at hv; subst hv
          have := hrun ad 0 cap e1 (Nat.zero_le _) (by omega) (by omega) (by simp)
          rw [h1, h2] at this
          exact Done.pure s this (.ewild _ _)
        | some m =>
          subst hnm
          have hv : chk (Nat.beq m 0) (some (T.tree [] false)) = some v := hv
          replace hv := chk_eq_some.1 hv; obtain ⟨h3, hv⟩ := hv
          have h3 := Nat.eq_of_beq_eq_true h3
          simp at hv; subst hv; subst h3
          have := hrun ad 0 cap e1 (Nat.zero_le _) (by omega) (by omega) (by intro k hk; simp at hk; omega)
          rw [h1, h2] at this
          exact Done.pure s this (.tree0 _ _)
      · rename_i b ep o' l full
        obtain ⟨L, ad, cp, e1, hb, hep, hcp, hcur⟩ := hx.inv_arr
        have hv : sliceArr b ep o' l full (optD nlo 0) (optD nhi l) nmx = some v := hv
        unfold sliceArr at hv
        replace hv := chk_eq_some.1 hv; obtain ⟨hle, hv⟩ := hv
        replace hv := chk_eq_some.1 hv; obtain ⟨hhl, hv⟩ := hv
        have hle := Nat.le_of_ble_eq_true hle
        have hhl := Nat.le_of_ble_eq_true hhl
        simp only [normNat_eq, bnd_some] at hv
        have hbsz : L.sz = te.size := by
          cases hg : h'.get b with
          | none => rw [hg] at hsl; simp at hsl
          | some bx =>
            rw [hg] at hsl
            have hsl : Nat.beq bx.sz te.size = true := hsl
            rw [← Nat.eq_of_beq_eq_true hsl]
            exact (s.sz_of hb hg).1.symm
        have hadd : ∀ c : Nat, cp ≠ 0 → ep = L.ep → ad.map (·.add (c * te.size)) = some ⟨L.blk, (o' + c) * L.sz, none⟩ := by
          intro c hne he
          rw [(hcur he).2.2 hne, ← hbsz]
          simp [add_none, Nat.add_mul]
        cases hnm : nmx with
        | none =>
          subst hnm
          have hres := hrun ad l cp e1 hcp hle hhl (by simp)
          have hv : (@Bool.rec (fun _ => Option T) (some (T.arr b ep (o' + optD nlo 0) (optD nhi l - optD nlo 0) false)) (chk (Nat.beq (optD nhi l) l) (some (T.arr b ep (o' + optD nlo 0) (optD nhi l - optD nlo 0) true))) full) = some v := hv
          cases full with
          | false =>
            simp at hv; subst hv
            refine Done.pure s hres (.arr _ _ _ _ _ L _ _ hb hep ?_ fun he => ⟨by simp, fun _ => ?_, fun hne => ?_⟩)
            · show optD nhi l - optD nlo 0 ≤ cp - optD nlo 0; omega
            · have := (hcur he).2.1 rfl
              show o' + optD nlo 0 + (cp - optD nlo 0) = L.cap
              omega
            · have hne : cp - optD nlo 0 ≠ 0 := hne
              have h0 : ¬ optD none cp = optD nlo 0 := by show ¬ cp = optD nlo 0; omega
              rw [if_neg h0]
              exact hadd _ (by omega) he
          | true =>
            replace hv := chk_eq_some.1 hv; obtain ⟨hel, hv⟩ := hv
            have hel := Nat.eq_of_beq_eq_true hel
            simp at hv; subst hv
            refine Done.pure s hres (.arr _ _ _ _ _ L _ _ hb hep ?_ fun he => ⟨fun _ => ?_, by simp, fun hne => ?_⟩)
            · show optD nhi l - optD nlo 0 ≤ cp - optD nlo 0; omega
            · have := (hcur he).1 rfl
              show cp - optD nlo 0 = optD nhi l - optD nlo 0
              omega
            · have hne : cp - optD nlo 0 ≠ 0 := hne
              have h0 : ¬ optD none cp = optD nlo 0 := by show ¬ cp = optD nlo 0; omega
              rw [if_neg h0]
              exact hadd _ (by omega) he
        | some m =>
          subst hnm
          have hv : chk (Nat.beq m (optD nhi l)) (some (T.arr b ep (o' + optD nlo 0) (optD nhi l - optD nlo 0) true)) = some v := hv
          replace hv := chk_eq_some.1 hv; obtain ⟨hmm, hv⟩ := hv
          have hmm := Nat.eq_of_beq_eq_true hmm
          simp at hv; subst hv
          have hres := hrun ad l cp e1 hcp hle hhl (by intro k hk; simp at hk; omega)
          have hom : optD (some m) cp = optD nhi l := hmm
          rw [hom] at hres
          refine Done.pure s hres (.arr _ _ _ _ _ L _ _ hb hep (Nat.le_refl _) fun he => ⟨fun _ => rfl, by simp, fun hne => ?_⟩)
          have h0 : ¬ optD nhi l = optD nlo 0 := by omega
          rw [if_neg h0]
          exact hadd _ (by omega) he
  · exact absurd ⟨_, _, hut⟩ harr
end
end Go.TI
