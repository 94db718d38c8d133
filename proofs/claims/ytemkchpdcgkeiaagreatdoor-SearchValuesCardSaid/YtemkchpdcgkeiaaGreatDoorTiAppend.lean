/- 'append'. -/
import Derived.Test.YtemkchpdcgkeiaaGreatDoorTiWrite4
import Derived.Deep.AppendSrc
set_option linter.unusedVariables false
namespace Go.TI
set_option linter.unusedSimpArgs false
set_option linter.unusedVariables false
section
variable {P : Program} {cx : Ctx} {base : Nat} {w : World} {μ : Mu} {h h' : H} {mask : Nat} {e : Env} {a : Act} {o : Oper} {hp hp' : Array Obj}

theorem fits_eq {sz : Nat} {es : List T} (hh : fits sz es = true) {n : Nat} (hu : ∀ v ∈ es, v.cells.length = n) : ∀ v ∈ es, v.cells.length = sz := by
  cases es with
  | nil => intro v hv; simp at hv
  | cons x es =>
    have hh : Nat.beq (lenN x.cells) sz = true := hh
    have := Nat.eq_of_beq_eq_true hh
    rw [lenN_eq] at this
    have hx := hu x (by simp)
    intro v hv
    rw [hu v hv]; omega

/-- The cells that a slice's elements take, as they lie. -/
structure Items (P : Program) (w : World) (μ : Mu) (c : Value) (es : List T) (sz : Nat) : Prop where
  uni : ∀ v ∈ es, v.cells.length = sz
  scalar : ∀ v ∈ flat es, v.scalar = true
  form : ∃ ad cap news, c = .slice ad es.length cap ∧ es.length ≤ cap ∧ RelL w.heap μ (flat es) news ∧ (∀ u ∈ news, u.oneCell' = true) ∧
    ((ad = none ∧ es = []) ∨ ∃ x : Addr, ad = some x ∧ ∀ (j : Nat) u, news[j]? = some u → w.cell? (x.add j) = some u)

theorem RelL.oneCell {vs : List T} {cs : List Value} (hL : RelL hp μ vs cs) (hs : ∀ v ∈ vs, v.scalar = true) : ∀ u ∈ cs, u.oneCell' = true := by
  intro u hu
  obtain ⟨k, hk, rfl⟩ := List.getElem_of_mem hu
  have hk' : k < vs.length := by rw [hL.1]; exact hk
  obtain ⟨c, hc, hr⟩ := hL.get (k := k) (v := vs[k]) (by simp [hk'])
  simp [hk] at hc; subst hc
  exact scalar_oneCell hr (hs _ (List.getElem_mem hk'))

theorem items_sound (s : St cx base w.heap μ h) {x : T} {c : Value} {es : List T} (hx : RelV w.heap μ x c) (hh : h.items x = some es) : ∃ sz, Items P w μ c es sz := by
  unfold H.items at hh
  cases x <;> simp at hh
  · -- a tree
    rename_i es' full
    subst hh
    cases es' with
    | nil =>
      obtain ⟨ad, rfl⟩ := hx.inv_tree0
      refine ⟨0, by simp, by simp [flat], ad, 0, [], rfl, Nat.le_refl _, RelL.nil, by simp, ?_⟩
      cases ad with
      | none => exact .inl ⟨rfl, rfl⟩
      | some y => exact .inr ⟨y, rfl, by simp⟩
    | cons x0 es =>
      obtain ⟨blk, off, cap, sz, arr, t', fz, rfl, hn, hh', hl', hf, huu, hs, hc0, hr⟩ := hx.inv_tree
      have hc : ∀ v ∈ flat (x0 :: es), v.scalar = true := fun v hv => (hc0 v hv).1
      have r : RowAt w.heap μ blk off (flat (x0 :: es)) := ⟨⟨arr, t', fz, hh', hs, hr⟩, hc⟩
      have hL : RelL w.heap μ (flat (x0 :: es)) ((arr.toList.drop off).take (flat (x0 :: es)).length) := by
        refine ⟨by simp; omega, fun k v hv => ?_⟩
        have hk : k < (flat (x0 :: es)).length := by
          rcases Nat.lt_or_ge k (flat (x0 :: es)).length with y | y
          · exact y
          · rw [List.getElem?_eq_none y] at hv; simp at hv
        have := hr k v hv
        have hlt : off + k < arr.size := by omega
        simpa [List.getD, List.getElem?_take, hk, Array.getD_eq_getD_getElem?, hlt] using this
      refine ⟨sz, huu, hc, some ⟨blk, off, none⟩, cap, _, rfl, hl', hL, hL.oneCell hc, .inr ⟨_, rfl, fun j u hj => ?_⟩⟩
      rw [add_none]
      rw [List.getElem?_take] at hj
      split at hj
      · rw [List.getElem?_drop] at hj
        simp only [World.cell?, hh']
        simpa using hj
      · simp at hj
  · subst hh
    obtain ⟨ad, cap, rfl⟩ := hx.inv_ewild
    refine ⟨0, by simp, by simp [flat], ad, cap, [], rfl, Nat.zero_le _, RelL.nil, by simp, ?_⟩
    cases ad with
    | none => exact .inl ⟨rfl, rfl⟩
    | some y => exact .inr ⟨y, rfl, by simp⟩
  · rename_i b ep o' l full
    replace hh := bnd_eq_some.1 hh; obtain ⟨bx, hbx, hh⟩ := hh
    obtain ⟨sz, ep', ver, ex, it, elems⟩ := bx
    have hh : chk (Nat.beq ep' ep) (@Bool.rec (fun _ => Option (List T)) (bnd (dropN o' elems) fun r => takeN l r) none it) = some es := hh
    replace hh := chk_eq_some.1 hh; obtain ⟨hep, hh⟩ := hh
    cases it with
    | true => simp at hh
    | false =>
      have hh : (bnd (dropN o' elems) fun r => takeN l r) = some es := hh
      replace hh := bnd_eq_some.1 hh; obtain ⟨r, hr, hh⟩ := hh
      rw [dropN_eq] at hr
      split at hr
      · rename_i hle
        simp at hr; subst hr
        rw [takeN_eq] at hh
        split at hh
        · rename_i hle2
          simp at hh hle2; subst hh
          obtain ⟨L, ad, cp, rfl, hb, hel, hcp, hcur⟩ := hx.inv_arr
          obtain ⟨c, g1, g2⟩ := s.row_of hb hbx rfl
          simp only [] at g1 g2
          have hep := Nat.eq_of_beq_eq_true hep
          obtain ⟨c1, c2, c3⟩ := hcur (by omega)
          obtain ⟨arr, t', hrow, hsize, hL⟩ := c.row
          have hu := c.size
          simp only [] at hu hL
          have hcut := flat_cut hu o' l
          have hlen : ((elems.drop o').take l).length = l := by simp; omega
          have hfl := flat_length hu
          have hL' : RelL w.heap μ (flat ((elems.drop o').take l)) (((arr.toList.take (flat elems).length).drop (o' * L.sz)).take (l * L.sz)) := by
            rw [hcut]; exact (hL.drop _).take _
          have hsc : ∀ v ∈ flat ((elems.drop o').take l), v.scalar = true := by
            intro v hv; rw [hcut] at hv; exact c.scalar v (List.mem_of_mem_drop (List.mem_of_mem_take hv))
          refine ⟨L.sz, fun v hv => hu v (List.mem_of_mem_drop (List.mem_of_mem_take hv)), hsc, ad, cp, _, by rw [hlen], by rw [hlen]; exact hcp, hL', hL'.oneCell hsc, ?_⟩
          by_cases h0 : cp = 0
          · have hl0 : l = 0 := by omega
            subst hl0
            cases ad with
            | none => exact .inl ⟨rfl, by simp⟩
            | some y => exact .inr ⟨y, rfl, by simp⟩
          · refine .inr ⟨_, c3 h0, fun j u hj => ?_⟩
            rw [add_none]
            rw [List.getElem?_take] at hj
            split at hj
            · rw [List.getElem?_drop, List.getElem?_take] at hj
              split at hj
              · simp only [World.cell?, hrow]
                simpa using hj
              · simp at hj
            · simp at hj
        · simp at hh
      · simp at hr

/-- The same as the model's 'append' reads it. -/
theorem Items.src {c : Value} {es : List T} {sz : Nat} (it : Items P w μ c es sz) {tx e' : TypeId} (hk : P.underlying tx = some (.slice e')) : ∃ news, Src P sz tx c es.length news w ∧ RelL w.heap μ (flat es) news := by
  obtain ⟨ad, cap, news, rfl, hle, hL, h1, hcase⟩ := it.form
  refine ⟨news, ?_, hL⟩
  have hl : news.length = es.length * sz := by rw [← hL.1, flat_length it.uni]
  rcases hcase with ⟨rfl, rfl⟩ | ⟨x, rfl, hx⟩
  · have : news = [] := List.eq_nil_of_length_eq_zero (by simpa using hl)
    subst this
    exact Src.ofNil w hk cap
  · exact Src.ofSlice w hk x es.length cap news hl hx h1

theorem Items.first {c : Value} {es : List T} {sz : Nat} (it : Items P w μ c es sz) : ∃ news, (Builtin.firstCells sz es.length c).run P w.drew = .ok news.toArray w.drew ∧ RelL w.heap μ (flat es) news := by
  obtain ⟨ad, cap, news, rfl, hle, hL, h1, hcase⟩ := it.form
  refine ⟨news, ?_, hL⟩
  have hl : news.length = es.length * sz := by rw [← hL.1, flat_length it.uni]
  rcases hcase with ⟨rfl, rfl⟩ | ⟨x, rfl, hx⟩
  · have : news = [] := List.eq_nil_of_length_eq_zero (by simpa using hl)
    subst this
    exact run_firstCells_none w.drew sz 0 0 cap
  · exact run_firstCells_some w.drew sz es.length x es.length cap news hl (by simpa using hx)
end
end Go.TI
