/- The built-in functions; conversions that make memory; iterators. -/
import Derived.Test.YtemkchpdcgkeiaaGreatDoorTiAppend2
set_option linter.unusedVariables false
namespace Go.TI
set_option linter.unusedSimpArgs false
set_option linter.unusedVariables false
section
variable {P : Program} {cx : Ctx} {base : Nat} {w : World} {μ : Mu} {h h' : H} {mask : Nat} {e : Env} {a : Act} {o : Oper} {hp hp' : Array Obj} {p : T}

/-- As 'Done', of a computation that gives a value. -/
def DoneV (cx : Ctx) (base : Nat) (w : World) (μ : Mu) (n : Nat) (r : Result Value) (v : T) (h' : H) : Prop :=
  ∃ c w' μ', r = .ok c w' ∧ RelV w'.heap μ' v c ∧ St cx base w'.heap μ' h' ∧ ExtW w μ w' μ' ∧ Dom μ μ' n h'.size

theorem DoneV.pure {r : Result Value} {v : T} {c : Value} (s : St cx base w.heap μ h) (hr : r = .ok c w) (hv : RelV w.heap μ v c) : DoneV cx base w μ h.size r v h :=
  ⟨c, w, μ, hr, hv, s, ExtW.refl _ _, Dom.refl _ _⟩

theorem elemTy_sound (tys : TysOk P cx) {t : TypeId} {te : Ty} (hh : elemTy cx t = some te) : ∃ el, P.underlying t = some (.slice el) ∧ cx.ty el = some te := by
  obtain ⟨ty, hty, hh⟩ := bnd_eq_some.1 hh
  obtain ⟨d, hd, hu⟩ := und_of (tys.ty _ _ hty)
  cases hut : ty.u <;> rw [hut] at hh hu <;> simp at hh
  have := uOf_slice hu; subst this
  exact ⟨_, hd, hh⟩

theorem mapOpt_bytes (bs : List Nat) : mapOpt (fun c => some (T.int .u8 (.ofNat c))) bs = some (bs.map fun c => T.int .u8 (.ofNat c)) := by
  induction bs with
  | nil => rfl
  | cons b bs ih => rw [mapOpt_cons, ih]; rfl

theorem flat_ints (bs : List Nat) : flat (bs.map fun c => T.int .u8 (.ofNat c)) = bs.map fun c => T.int .u8 (.ofNat c) := by
  induction bs with
  | nil => rfl
  | cons b bs ih => rw [List.map_cons, flat_cons, ih]; rfl

theorem news_sound (tys : TysOk P cx) (s : St cx base w.heap μ h) {tx : TypeId} {x : T} {c : Value} {xs : List T} {sz : Nat} (hx : RelV w.heap μ x c) (hh : srcItems cx h tx x = some xs) (hf : fits sz xs = true) :
    ∃ news, News P w μ sz tx c xs news := by
  obtain ⟨ty, hty, hh⟩ := bnd_eq_some.1 hh
  obtain ⟨d, hd, hu⟩ := und_of (tys.ty _ _ hty)
  cases hut : ty.u <;> rw [hut] at hh hu <;> simp at hh
  · have := uOf_str hu; subst this
    have hform : ∃ bs, x = .str bs := by cases x <;> first | exact ⟨_, rfl⟩ | (simp at hh)
    obtain ⟨bs, rfl⟩ := hform
    have hh : mapOpt (fun c => some (T.int .u8 (.ofNat c))) bs = some xs := hh
    rw [mapOpt_bytes] at hh
    simp only [Option.some.injEq] at hh; subst hh
    obtain ⟨rfl, hb⟩ := hx.inv_str
    cases bs with
    | nil =>
      have hz : bytesOf [] = ByteArray.empty := rfl
      refine ⟨[], ⟨⟨.inr hd, fun w' => by simp [Builtin.lenOf]; rfl, ?_, ?_, by simp, by simp⟩, RelL.nil, by simp, by simp [flat]⟩⟩
      · simp [Builtin.firstCells, hz]
      · simp [Builtin.firstCells, hz]
    | cons b bs =>
      have hsz : sz = 1 := by
        have hf : Nat.beq 1 sz = true := hf
        exact (Nat.eq_of_beq_eq_true hf).symm
      subst hsz
      have hsrc := Src.ofString w hd (bytesOf (b :: bs))
      have hbl : (bytesOf (b :: bs)).size = ((b :: bs).map fun c => T.int .u8 (.ofNat c)).length := by rw [size_bytesOf]; simp
      rw [hbl] at hsrc
      refine ⟨_, hsrc, ?_, by intro v hv; simp only [List.mem_map] at hv; obtain ⟨_, _, rfl⟩ := hv; rfl, by rw [flat_ints]; intro v hv; simp only [List.mem_map] at hv; obtain ⟨_, _, rfl⟩ := hv; rfl⟩
      rw [flat_ints]
      refine ⟨by rw [byteCells_length, hbl], fun k v hv => ?_⟩
      rw [List.getElem?_map] at hv
      cases hk : (b :: bs)[k]? with
      | none => rw [hk] at hv; simp at hv
      | some q =>
        rw [hk] at hv; simp at hv; subst hv
        have hq : q < 256 := hb q (List.mem_of_getElem? hk)
        have : (byteCells (bytesOf (b :: bs)))[k]? = some (.int .u8 (q : Int)) := by
          simp only [byteCells, bytesOf, List.getElem?_map, List.toList_toArray, hk, Option.map_some, toNat_ofNat_lt hq]
        rw [List.getD, this]
        exact .int _ _
  · rename_i el
    have := uOf_slice hu; subst this
    obtain ⟨sz', it⟩ := items_sound (P := P) s hx hh
    have hu' := fits_eq hf it.uni
    have it' : Items P w μ c xs sz := ⟨hu', it.scalar, it.form⟩
    obtain ⟨news, hs, hL⟩ := it'.src hd
    exact ⟨news, hs, hL, hu', it.scalar⟩

theorem sliceForm (hsl : isSliceT p = true) {c : Value} (hp : RelV w.heap μ p c) : ∃ ad l cp, c = .slice ad l cp ∧ l ≤ cp := by
  cases hp <;> simp [isSliceT] at hsl
  · exact ⟨_, _, _, rfl, Nat.le_refl _⟩
  · exact ⟨_, _, _, rfl, by assumption⟩
  · exact ⟨_, _, _, rfl, Nat.zero_le _⟩
  · exact ⟨_, _, _, rfl, by assumption⟩

theorem bAppend_sound (tys : TysOk P cx) (s : St cx base w.heap μ h) {t tx ty' : TypeId} {q v : T} {c d : Value} (hp : RelV w.heap μ p c) (hq : RelV w.heap μ q d) (hh : bAppend cx h t tx p q = some (.val v h')) :
    DoneV cx base w μ h.size ((Builtin.append_ #[t, tx] ty' #[c, d]).run P w) v h' := by
  replace hh := bnd_eq_some.1 hh; obtain ⟨te, hte, hh⟩ := hh
  replace hh := bnd_eq_some.1 hh; obtain ⟨xs, hxs, hh⟩ := hh
  replace hh := chk_eq_some.1 hh; obtain ⟨hf, hh⟩ := hh
  rw [valNew_eq_some] at hh
  obtain ⟨el, hd, hel⟩ := elemTy_sound tys hte
  obtain ⟨news, nw⟩ := news_sound (P := P) tys s hq hxs hf
  cases xs with
  | nil =>
    have hh : chk (isSliceT p) (some (p, h)) = some (v, h') := hh
    obtain ⟨hsl, hh⟩ := chk_eq_some.1 hh
    simp only [Option.some.injEq, Prod.mk.injEq] at hh
    obtain ⟨rfl, rfl⟩ := hh
    have hn0 : news = [] := List.eq_nil_of_length_eq_zero (by have := nw.src.newsLen; simpa using this)
    subst hn0
    obtain ⟨ad, l, cp, rfl, hle⟩ := sliceForm hsl hp
    exact DoneV.pure s (run_none (ty' := ty') tys hd hel nw.src hle) hp
  | cons x1 xs =>
    have hne : x1 :: xs ≠ [] := by simp
    have hpos : 0 < (x1 :: xs).length := by simp
    have fromItems : ∀ {es : List T} {sz' : Nat}, Items P w μ c es sz' → (∀ ad l cp, c = .slice ad l cp → cp = l) → h.appendNew te.size te.bytes es (x1 :: xs) = some (v, h') → DoneV cx base w μ h.size ((Builtin.append_ #[t, tx] ty' #[c, d]).run P w) v h' := by
      intro es sz' it hcap hh'
      have hfo : fits te.size es = true := by
        unfold H.appendNew at hh'
        simp only [appN_eq, bnd_some, normNat_eq, lenN_eq] at hh'
        obtain ⟨_, hh'⟩ := chk_eq_some.1 hh'
        obtain ⟨_, hh'⟩ := chk_eq_some.1 hh'
        exact (chk_eq_some.1 hh').1
      have it' : Items P w μ c es te.size := ⟨fits_eq hfo it.uni, it.scalar, it.form⟩
      obtain ⟨ad, cap, nn, hform, hle, _⟩ := it'.form
      obtain ⟨olds, o1, o2⟩ := it'.first
      subst hform
      have := hcap _ _ _ rfl
      obtain ⟨c', w', μ', r1, r2, r3, r4, r5⟩ := appendNew_sound tys s hd hel (ty' := ty') (ad := ad) (cap := cap) ⟨o1, o2, it'.uni, it'.scalar⟩ nw (by omega) hh'
      exact ⟨c', w', μ', r1, r2, r3, r4, r5⟩
    have hform : (∃ es full, p = .tree es full) ∨ ∃ b ep o l full, p = .arr b ep o l full := by
      cases p <;> first | (exact .inl ⟨_, _, rfl⟩) | (exact .inr ⟨_, _, _, _, _, rfl⟩) | (simp [H.append] at hh)
    rcases hform with ⟨es, full, rfl⟩ | ⟨b, ep, o', l, full, rfl⟩
    · cases es with
      | nil =>
        have hh : h.appendNew te.size te.bytes [] (x1 :: xs) = some (v, h') := hh
        obtain ⟨ad, rfl⟩ := hp.inv_tree0
        obtain ⟨sz', it⟩ := items_sound (P := P) (es := []) s hp rfl
        exact fromItems it (by intro _ _ _ hc; simp at hc; omega) hh
      | cons x0 es =>
        have hh : chk full (h.appendNew te.size te.bytes (x0 :: es) (x1 :: xs)) = some (v, h') := hh
        obtain ⟨hfull, hh⟩ := chk_eq_some.1 hh
        obtain ⟨sz', it⟩ := items_sound (P := P) (es := x0 :: es) s hp rfl
        refine fromItems it ?_ hh
        intro ad l cp hc
        obtain ⟨_, _, _, _, _, _, _, hc', _, _, _, hfl, _⟩ := hp.inv_tree
        rw [hc'] at hc
        simp at hc
        have := hfl hfull
        omega
    · cases full with
      | true =>
        have hh : (bnd (h.items (.arr b ep o' l true)) fun es => h.appendNew te.size te.bytes es (x1 :: xs)) = some (v, h') := hh
        obtain ⟨es, hes, hh⟩ := bnd_eq_some.1 hh
        obtain ⟨sz', it⟩ := items_sound (P := P) s hp hes
        refine fromItems it ?_ hh
        intro ad l' cp hc
        obtain ⟨L, ad', cp', hc', hb, _, _, hcur⟩ := hp.inv_arr
        rw [hc'] at hc
        simp at hc
        have hep : ep = L.ep := by
          unfold H.items at hes
          obtain ⟨bx, hbx, hes⟩ := bnd_eq_some.1 hes
          obtain ⟨sz, ep', ver, ex, it, elems⟩ := bx
          have hes : chk (Nat.beq ep' ep) (@Bool.rec (fun _ => Option (List T)) (bnd (dropN o' elems) fun r => takeN l r) none it) = some es := hes
          have h1 := Nat.eq_of_beq_eq_true (chk_eq_some.1 hes).1
          have := (s.sz_of hb hbx).2
          simp only [] at this
          omega
        have := (hcur hep).1 rfl
        omega
      | false =>
        cases o' with
        | succ o' => exact absurd hh (by simp [H.append])
        | zero => exact appendOn_sound tys s hd hel (ty' := ty') hp nw hne hh

theorem bClear_sound (tys : TysOk P cx) (s : St cx base w.heap μ h) {t ty' : TypeId} {v : T} {c : Value} (hp : RelV w.heap μ p c) (hh : bClear cx h t p = some (.val v h')) :
    DoneV cx base w μ h.size ((Builtin.clear_ #[t] ty' #[c]).run P w) v h' := by
  replace hh := bnd_eq_some.1 hh; obtain ⟨te, hte, hh⟩ := hh
  obtain ⟨el, hd, hel⟩ := elemTy_sound tys hte
  have nothing : ∀ {ad : Option Addr} {cp : Nat}, c = .slice ad 0 cp → v = .undef → h' = h → DoneV cx base w μ h.size ((Builtin.clear_ #[t] ty' #[c]).run P w) v h' := by
    intro ad cp hc hv hh'
    subst hc hv hh'
    refine DoneV.pure s ?_ .undef
    cases ad <;> simp [Builtin.clear_, run_underlying hd]
  cases p <;> simp only [reduceCtorEq] at hh
  · rename_i es full
    cases es with
    | nil =>
      simp only [Option.some.injEq, Did.val.injEq] at hh
      obtain ⟨ad, rfl⟩ := hp.inv_tree0
      exact nothing rfl hh.1.symm hh.2.symm
    | cons x es => simp at hh
  · simp only [Option.some.injEq, Did.val.injEq] at hh
    obtain ⟨ad, l, cp, hc, hle⟩ := sliceForm (p := .ewild) rfl hp
    cases hp
    exact nothing rfl hh.1.symm hh.2.symm
  · rename_i b ep o' l full
    obtain ⟨L, ad, cp, rfl, hb, hepl, hlc, hcur⟩ := hp.inv_arr
    cases l with
    | zero =>
      have hh : some (Did.val .undef h) = some (.val v h') := hh
      simp only [Option.some.injEq, Did.val.injEq] at hh
      exact nothing rfl hh.1.symm hh.2.symm
    | succ l =>
      replace hh := bnd_eq_some.1 hh; obtain ⟨bx, hbx, hh⟩ := hh
      obtain ⟨sz, ep', ver, ex, it, elems⟩ := bx
      have hh : (chk (Nat.beq ep' ep) <| chk (Nat.beq sz te.size) (@Bool.rec (fun _ => Option Did)
          (bnd (splice elems o' (replicateN te.zeroT (l + 1))) fun es => bnd (normNat (Nat.succ ver)) fun ver' =>
            bnd (h.put b ⟨sz, ep', ver', ex, false, es⟩) fun h' => some (.val .undef h')) none it)) = some (.val v h') := hh
      replace hh := chk_eq_some.1 hh; obtain ⟨hep, hh⟩ := hh
      replace hh := chk_eq_some.1 hh; obtain ⟨hsz, hh⟩ := hh
      cases it with
      | true => simp at hh
      | false =>
        replace hh := bnd_eq_some.1 hh; obtain ⟨es, hes, hh⟩ := hh
        simp only [normNat_eq, bnd_some] at hh
        replace hh := bnd_eq_some.1 hh; obtain ⟨h2, hput, hh⟩ := hh
        simp only [Option.some.injEq, Did.val.injEq] at hh
        obtain ⟨rfl, rfl⟩ := hh
        have hep := Nat.eq_of_beq_eq_true hep
        have hsz := Nat.eq_of_beq_eq_true hsz
        obtain ⟨ck, g1, g2⟩ := s.row_of hb hbx rfl
        simp only [] at g1 g2
        obtain ⟨_, _, hadr⟩ := hcur (by omega)
        have hadr := hadr (by omega)
        subst hadr
        obtain ⟨arr, t', hrow, hsize, hL⟩ := ck.row
        have hu := ck.size
        simp only [] at hu hL
        obtain ⟨z, hz, hzV, hzL, hzs, hzl, hzc, hzg, hzz⟩ := (tys.ty _ _ hel).zero w
        rw [replicateN_eq] at hes
        obtain ⟨hle, hes⟩ := splice_eq_some hes
        rw [List.length_replicate] at hle hes
        have hfl := flat_length hu
        have hzL' : (flat (List.replicate (l + 1) te.zeroT)).length = (l + 1) * L.sz := by
          rw [flat_length (sz := L.sz) (by intro v hv; rw [List.eq_of_mem_replicate hv, hzc, hzl]; omega), List.length_replicate]
        have hflat : flat es = (flat elems).take (o' * L.sz) ++ flat (List.replicate (l + 1) te.zeroT) ++ (flat elems).drop (o' * L.sz + (l + 1) * L.sz) := by
          rw [hes, flat_append, flat_append, flat_take hu, ← Nat.add_mul, flat_drop hu]
        have hu' : ∀ v ∈ es, v.cells.length = L.sz := by
          intro v hv
          rw [hes] at hv
          rcases List.mem_append.1 hv with hv | hv
          · rcases List.mem_append.1 hv with hv | hv
            · exact hu v (List.mem_of_mem_take hv)
            · rw [List.eq_of_mem_replicate hv, hzc, hzl]; omega
          · exact hu v (List.mem_of_mem_drop hv)
        have hsc' : ∀ v ∈ flat es, v.scalar = true := by
          intro v hv
          rw [hflat] at hv
          rcases List.mem_append.1 hv with hv | hv
          · rcases List.mem_append.1 hv with hv | hv
            · exact ck.scalar v (List.mem_of_mem_take hv)
            · obtain ⟨y, hy, hv⟩ := List.mem_flatMap.1 hv
              rw [List.eq_of_mem_replicate hy, hzc] at hv
              exact hzs v hv
          · exact ck.scalar v (List.mem_of_mem_drop hv)
        have hlen : es.length = elems.length := by rw [hes]; simp; omega
        have hfl' : (flat es).length = (flat elems).length := by rw [flat_length hu', hfl, hlen]
        have hNle : (flat elems).length ≤ arr.size := by
          rw [hfl, hsize]; exact Nat.mul_le_mul_right _ ck.room
        have hbound : o' * L.sz + (l + 1) * L.sz ≤ (flat elems).length := by
          rw [hfl, ← Nat.add_mul]; exact Nat.mul_le_mul_right _ hle
        -- the model's zero cells
        have hzsz : z.cells.size = L.sz := by have := (hzL w.heap μ).1; simp only [Array.length_toList] at this; omega
        have hzcells : ∃ zc : List Value, (Builtin.zeroCells z.cells (l + 1)).toList = zc ∧ zc.length = (l + 1) * L.sz ∧ RelL w.heap μ (flat (List.replicate (l + 1) te.zeroT)) zc := by
          have hR : RelL w.heap μ (flat (List.replicate (l + 1) te.zeroT)) (Builtin.zeroCells z.cells (l + 1)).toList := by
            by_cases h0 : z.cells.size = 0
            · have e1 : flat (List.replicate (l + 1) te.zeroT) = [] := List.eq_nil_of_length_eq_zero (by rw [hzL', ← hzsz, h0]; simp)
              have e2 : (Builtin.zeroCells z.cells (l + 1)).toList = [] := List.eq_nil_of_length_eq_zero (by rw [Array.length_toList, zeroCells_size, h0]; simp)
              rw [e1, e2]; exact RelL.nil
            · rw [Builtin.zeroCells, range_mod (l + 1) (by omega), flat_replicate, hzc]
              exact (hzL _ _).replicate (l + 1)
          exact ⟨_, rfl, by rw [Array.length_toList, zeroCells_size, hzsz], hR⟩
        obtain ⟨zc, hzc1, hzc2, hzc3⟩ := hzcells
        have hone : ∀ u ∈ zc, u.oneCell' = true := hzc3.oneCell (by
          intro v hv
          obtain ⟨y, hy, hv⟩ := List.mem_flatMap.1 hv
          rw [List.eq_of_mem_replicate hy, hzc] at hv
          exact hzs v hv)
        have hLa : RelL w.heap μ (flat es) ((arr.toList.take (o' * L.sz) ++ zc ++ arr.toList.drop (o' * L.sz + zc.length)).toArray.toList.take (flat es).length) := by
          rw [hfl', hflat]
          rw [List.toList_toArray, take_splice _ _ (by omega) (by simpa using hNle)]
          rw [hzc2]
          exact ((hL.take _).append hzc3).append (hL.drop _)
        obtain ⟨μ', k1, k2, k3, k4⟩ := write_row s hb hbx rfl hrow (.inl g1) hput (arr' := (arr.toList.take (o' * L.sz) ++ zc ++ arr.toList.drop (o' * L.sz + zc.length)).toArray)
          (by simp only [List.size_toArray, List.length_append, List.length_take, List.length_drop, Array.length_toList]; rw [← hsize]; omega) (by rw [hlen]; exact ck.room) (by intro k; have := ck.exact_ k; simp only at this; rw [hlen]; exact this) hu' hsc' hLa
        refine ⟨.tuple #[], _, μ', ?_, .undef, k1, k2, k3⟩
        have hrun := run_storeCells_at (P := P) L.blk (o' * L.sz) t' zc 0 arr w hrow (by simp only [Nat.add_zero]; omega) hone
        simp only [Nat.add_zero] at hrun
        simp [Builtin.clear_, run_underlying hd, hz, hzc1, hrun]
end
end Go.TI
