/- 'append': the operation. -/
import Derived.Test.YtemkchpdcgkeiaaGreatDoorTiAppend
import Derived.Laws.AppendOwn
set_option linter.unusedVariables false
namespace Go.TI
set_option linter.unusedSimpArgs false
set_option linter.unusedVariables false
section
variable {P : Program} {cx : Ctx} {base : Nat} {w : World} {μ : Mu} {h h' : H} {mask : Nat} {e : Env} {a : Act} {o : Oper} {hp hp' : Array Obj}

/-- What is appended: elements of one size, as the model reads them. -/
structure News (P : Program) (w : World) (μ : Mu) (sz : Nat) (tx : TypeId) (x : Value) (xs : List T) (news : List Value) : Prop where
  src : Src P sz tx x xs.length news w
  rel : RelL w.heap μ (flat xs) news
  uni : ∀ v ∈ xs, v.cells.length = sz
  scalar : ∀ v ∈ flat xs, v.scalar = true

/-- What lies there: elements of one size, as the model reads them behind a draw. -/
structure Olds (P : Program) (w : World) (μ : Mu) (sz : Nat) (c : Value) (es : List T) (olds : List Value) : Prop where
  first : (Builtin.firstCells sz es.length c).run P w.drew = .ok olds.toArray w.drew
  rel : RelL w.heap μ (flat es) olds
  uni : ∀ v ∈ es, v.cells.length = sz
  scalar : ∀ v ∈ flat es, v.scalar = true

theorem zeroCells_size (zs : Array Value) (n : Nat) : (Builtin.zeroCells zs n).size = n * zs.size := by simp [Builtin.zeroCells]

theorem flat_mem_append {xs ys : List T} {Q : T → Prop} (h1 : ∀ v ∈ flat xs, Q v) (h2 : ∀ v ∈ flat ys, Q v) : ∀ v ∈ flat (xs ++ ys), Q v := by
  intro v hv
  rw [flat_append] at hv
  rcases List.mem_append.1 hv with k | k
  · exact h1 v k
  · exact h2 v k

theorem grown_size {olds news : List Value} {zs : Array Value} {cap n sz : Nat} (h1 : olds.length + news.length = n * sz) (h2 : zs.size = sz) (h3 : n ≤ cap) :
    ((olds ++ news).toArray ++ Builtin.zeroCells zs (cap - n)).size = cap * sz := by
  simp only [Array.size_append, List.size_toArray, List.length_append, zeroCells_size, h1, h2]
  rw [← Nat.add_mul]
  congr 1; omega

/-- The growing arm, as the model runs it. -/
theorem run_grow (tys : TysOk P cx) {t tx ty' el : TypeId} {te : Ty} (hd : P.underlying t = some (.slice el)) (hte : cx.ty el = some te) {ad : Option Addr} {cap : Nat} {es xs : List T} {olds news : List Value} {x : Value}
    (ol : Olds P w μ te.size (.slice ad es.length cap) es olds) (nw : News P w μ te.size tx x xs news) (hg : cap < es.length + xs.length) (hb : 1 ≤ te.bytes) (hsm : (es.length + xs.length) * te.bytes ≤ 70368744177664) :
    ∃ (z : Value) (newCap : Nat), es.length + xs.length ≤ newCap ∧ z.cells.size = te.size ∧ (Builtin.append_ #[t, tx] ty' #[.slice ad es.length cap, x]).run P w =
      .ok (.slice (some ⟨w.heap.size, 0, none⟩) (es.length + xs.length) newCap) { w with drawn := w.drawn + 1, heap := w.heap.push (.cells ((olds ++ news).toArray ++ Builtin.zeroCells z.cells (newCap - (es.length + xs.length))) el) } := by
  obtain ⟨i, d, z, g1, g2, g3, g4, g5, g6, g7, g8, g9, _⟩ := (tys.ty _ _ hte).unfold
  have hzs : z.cells.size = te.size := by
    have := (RelL.ofCells (hp := #[]) (μ := ⟨fun _ => none, fun _ => False⟩) g4).1.1
    simp at this; omega
  have hneed : es.length + xs.length ≤ 70368744177664 := Nat.le_trans (Nat.le_mul_of_pos_right _ (by omega)) hsm
  have h1 := ol.first
  have h2 := nw.src
  rw [← g8] at h1 h2
  have := run_append_grow_src w t tx ty' el i z hd g1 g3 ad es.length cap olds h1 x xs.length news h2 hg (by omega) (by rw [g9]; exact growslice_fits hg (by omega))
  exact ⟨z, _, grownCap_ge w _ _ _, hzs, this⟩

theorem appendNew_sound (tys : TysOk P cx) (s : St cx base w.heap μ h) {t tx ty' el : TypeId} {te : Ty} (hd : P.underlying t = some (.slice el)) (hte : cx.ty el = some te) {ad : Option Addr} {cap : Nat} {es xs : List T} {olds news : List Value} {x : Value}
    (ol : Olds P w μ te.size (.slice ad es.length cap) es olds) (nw : News P w μ te.size tx x xs news) (hg : cap < es.length + xs.length) {v : T} (hh : h.appendNew te.size te.bytes es xs = some (v, h')) :
    ∃ c w' μ', (Builtin.append_ #[t, tx] ty' #[.slice ad es.length cap, x]).run P w = .ok c w' ∧ RelV w'.heap μ' v c ∧ St cx base w'.heap μ' h' ∧ ExtW w μ w' μ' ∧ Dom μ μ' h.size h'.size := by
  unfold H.appendNew at hh
  simp only [appN_eq, bnd_some, normNat_eq, lenN_eq] at hh
  replace hh := chk_eq_some.1 hh; obtain ⟨hb, hh⟩ := hh
  replace hh := chk_eq_some.1 hh; obtain ⟨hsm, hh⟩ := hh
  replace hh := chk_eq_some.1 hh; obtain ⟨_, hh⟩ := hh
  replace hh := chk_eq_some.1 hh; obtain ⟨_, hh⟩ := hh
  rw [H.new_cons] at hh
  simp only [Option.some.injEq, Prod.mk.injEq] at hh
  obtain ⟨rfl, rfl⟩ := hh
  have hb := Nat.le_of_ble_eq_true hb
  have hsm : (es ++ xs).length * te.bytes ≤ 70368744177664 := Nat.le_of_ble_eq_true hsm
  rw [List.length_append] at hsm
  obtain ⟨z, newCap, hcap, hz, hrun⟩ := run_grow tys hd hte (ty' := ty') ol nw hg hb hsm
  have hu : ∀ v ∈ es ++ xs, v.cells.length = te.size := by
    intro v hv
    rcases List.mem_append.1 hv with k | k
    · exact ol.uni v k
    · exact nw.uni v k
  have hlen : olds.length + news.length = (es.length + xs.length) * te.size := by
    rw [← ol.rel.1, ← nw.rel.1, flat_length ol.uni, flat_length nw.uni, Nat.add_mul]
  have hL : RelL w.heap μ (flat (es ++ xs)) (((olds ++ news).toArray ++ Builtin.zeroCells z.cells (newCap - (es.length + xs.length))).toList.take (flat (es ++ xs)).length) := by
    rw [flat_length hu, List.length_append, Array.toList_append, List.toList_toArray, List.take_append_of_le_length (by simp; omega), List.take_of_length_le (by simp; omega), flat_append]
    exact ol.rel.append nw.rel
  have s' : St cx base ({ w with drawn := w.drawn + 1 } : World).heap μ h := s
  obtain ⟨μ', k1, k2, k3, k4⟩ := new_box s' el (cap := newCap) (sz := te.size) (ex := false) (es := es ++ xs) (grown_size hlen hz hcap) (by simpa using hcap) (by simp) hu (flat_mem_append ol.scalar nw.scalar) hL
  rw [List.length_append]
  exact ⟨_, _, μ', hrun, .arr _ 0 0 _ false _ _ newCap k4 (Nat.le_refl _) hcap (fun _ => ⟨by simp, by simp, by simp⟩), k1, ⟨k2.ext, rfl, rfl, rfl⟩, k3⟩

/-- The arm with room, as the model runs it. -/
theorem run_room (tys : TysOk P cx) {t tx ty' el : TypeId} {te : Ty} (hd : P.underlying t = some (.slice el)) (hte : cx.ty el = some te) {blk l cp n : Nat} {news : List Value} {x : Value}
    (hs : Src P te.size tx x n news w) (hroom : l + n ≤ cp) {arr : Array Value} {t' : TypeId} (hrow : w.heap[blk]? = some (.cells arr t' (0, 0))) (hsz : l * te.size + news.length ≤ arr.size) :
    (Builtin.append_ #[t, tx] ty' #[.slice (some ⟨blk, 0, none⟩) l cp, x]).run P w = .ok (.slice (some ⟨blk, 0, none⟩) (l + n) cp) (w.setRow blk (arr.toList.take (l * te.size) ++ news ++ arr.toList.drop (l * te.size + news.length)).toArray) := by
  obtain ⟨i, d, z, g1, g2, g3, g4, g5, g6, g7, g8, g9, _⟩ := (tys.ty _ _ hte).unfold
  have hst := run_storeCells_at (P := P) blk (l * te.size) t' news 0 arr w hrow (by omega) hs.one
  simp only [Nat.add_zero] at hst
  have hadd : (⟨blk, 0, none⟩ : Addr).add (l * te.size) = ⟨blk, l * te.size, none⟩ := by rw [add_none]; simp
  rcases hs.kind with ⟨e', hk⟩ | hk <;> simp [Builtin.append_, run_underlying hd, run_underlying hk, sizeOf, typeInfo, g1, g8, hs.len, hroom, hs.cells, hadd, hst]

/-- Nothing is appended. -/
theorem run_none (tys : TysOk P cx) {t tx ty' el : TypeId} {te : Ty} (hd : P.underlying t = some (.slice el)) (hte : cx.ty el = some te) {ad : Option Addr} {l cp : Nat} {x : Value} (hs : Src P te.size tx x 0 [] w) (hle : l ≤ cp) :
    (Builtin.append_ #[t, tx] ty' #[.slice ad l cp, x]).run P w = .ok (.slice ad l cp) w := by
  obtain ⟨i, d, z, g1, g2, g3, g4, g5, g6, g7, g8, g9, _⟩ := (tys.ty _ _ hte).unfold
  rcases hs.kind with ⟨e', hk⟩ | hk <;> cases ad <;> simp [Builtin.append_, run_underlying hd, run_underlying hk, sizeOf, typeInfo, g1, g8, hs.len, hle, hs.cells, storeCells]

theorem appendOn_sound (tys : TysOk P cx) (s : St cx base w.heap μ h) {t tx ty' el : TypeId} {te : Ty} (hd : P.underlying t = some (.slice el)) (hte : cx.ty el = some te) {b ep l : Nat} {xs : List T} {news : List Value} {c x : Value}
    (hx : RelV w.heap μ (.arr b ep 0 l false) c) (nw : News P w μ te.size tx x xs news) (hne : xs ≠ []) {v : T} (hh : h.appendOn te.size te.bytes b ep l xs = some (v, h')) :
    ∃ c' w' μ', (Builtin.append_ #[t, tx] ty' #[c, x]).run P w = .ok c' w' ∧ RelV w'.heap μ' v c' ∧ St cx base w'.heap μ' h' ∧ ExtW w μ w' μ' ∧ Dom μ μ' h.size h'.size := by
  unfold H.appendOn at hh
  replace hh := bnd_eq_some.1 hh; obtain ⟨bx, hbx, hh⟩ := hh
  obtain ⟨sz, ep', ver, ex, it, elems⟩ := bx
  have hh : (bnd (takeN l elems) fun es0 => bnd (appN es0 xs) fun es => bnd (normNat (lenN es)) fun n => chk (Nat.ble 1 te.bytes) <| chk (Nat.beq ep' ep) (chk (Nat.beq sz te.size) (chk (Nat.ble (Nat.mul n te.bytes) 70368744177664) (chk (fits te.size xs) (@Bool.rec (fun _ => Option (T × H))
      (bnd (normNat (Nat.succ ep')) fun ep1 => bnd (normNat (Nat.succ ver)) fun ver1 => bnd (h.put b ⟨sz, ep1, ver1, false, false, es⟩) fun h' => some (.arr b ep1 0 n false, h')) none it))))) = some (v, h') := hh
  replace hh := bnd_eq_some.1 hh; obtain ⟨es0, he0, hh⟩ := hh
  simp only [appN_eq, bnd_some, normNat_eq, lenN_eq] at hh
  replace hh := chk_eq_some.1 hh; obtain ⟨hb1, hh⟩ := hh
  replace hh := chk_eq_some.1 hh; obtain ⟨hep, hh⟩ := hh
  replace hh := chk_eq_some.1 hh; obtain ⟨hsz, hh⟩ := hh
  replace hh := chk_eq_some.1 hh; obtain ⟨hsm, hh⟩ := hh
  replace hh := chk_eq_some.1 hh; obtain ⟨_, hh⟩ := hh
  cases it with
  | true => simp at hh
  | false =>
    have hh : (bnd (h.put b ⟨sz, ep' + 1, ver + 1, false, false, es0 ++ xs⟩) fun h' => some (T.arr b (ep' + 1) 0 (es0 ++ xs).length false, h')) = some (v, h') := hh
    replace hh := bnd_eq_some.1 hh; obtain ⟨h2, hput, hh⟩ := hh
    simp only [Option.some.injEq, Prod.mk.injEq] at hh
    obtain ⟨rfl, rfl⟩ := hh
    have hb1 := Nat.le_of_ble_eq_true hb1
    have hep := Nat.eq_of_beq_eq_true hep
    have hsz := Nat.eq_of_beq_eq_true hsz
    have hsm : (es0 ++ xs).length * te.bytes ≤ 70368744177664 := Nat.le_of_ble_eq_true hsm
    rw [List.length_append] at hsm
    rw [takeN_eq] at he0
    split at he0
    · rename_i hle
      simp at he0; subst he0
      obtain ⟨L, ad, cp, rfl, hb, hel, hcp, hcur⟩ := hx.inv_arr
      obtain ⟨c, g1, g2⟩ := s.row_of hb hbx rfl
      simp only [] at g1 g2
      obtain ⟨_, c2, c3⟩ := hcur (by omega)
      have hcap : cp = L.cap := by have := c2 rfl; omega
      obtain ⟨arr, t', hrow, hsize, hL⟩ := c.row
      have hu := c.size
      simp only [] at hu hL
      have hLsz : L.sz = te.size := by omega
      have hlt : (elems.take l).length = l := by simp; omega
      have hu0 : ∀ v ∈ elems.take l, v.cells.length = te.size := fun v hv => by rw [← hLsz]; exact hu v (List.mem_of_mem_take hv)
      have hs0 : ∀ v ∈ flat (elems.take l), v.scalar = true := by
        intro v hv; rw [← flat_take hu] at hv; exact c.scalar v (List.mem_of_mem_take hv)
      have hua : ∀ v ∈ elems.take l ++ xs, v.cells.length = L.sz := by
        intro v hv
        rw [hLsz]
        rcases List.mem_append.1 hv with k | k
        · exact hu0 v k
        · exact nw.uni v k
      have hsa := flat_mem_append hs0 nw.scalar
      have hfl := flat_length hu
      have hnl : news.length = xs.length * te.size := by rw [← nw.rel.1, flat_length nw.uni]
      have hL0 : RelL w.heap μ (flat (elems.take l)) (arr.toList.take (l * L.sz)) := by
        have := hL.take (l * L.sz)
        rw [flat_take hu, List.take_take, Nat.min_eq_left (by rw [hfl]; exact Nat.mul_le_mul_right _ hle)] at this
        exact this
      have hpos : 0 < xs.length := List.length_pos_iff.2 hne
      by_cases hroom : l + xs.length ≤ cp
      · -- there is room
        have hcp0 : cp ≠ 0 := by omega
        have had := c3 hcp0
        simp only [Nat.zero_mul] at had
        subst had
        have hbound : l * te.size + news.length ≤ arr.size := by
          rw [hsize, hnl, hLsz, ← Nat.add_mul]
          exact Nat.mul_le_mul_right _ (by omega)
        have hrun := run_room (ty' := ty') tys hd hte nw.src hroom hrow hbound
        have hfla : (flat (elems.take l ++ xs)).length = l * te.size + news.length := by
          rw [flat_length hua, List.length_append, hlt, hnl, hLsz, Nat.add_mul]
        have hLn : RelL w.heap μ (flat (elems.take l ++ xs)) ((arr.toList.take (l * te.size) ++ news ++ arr.toList.drop (l * te.size + news.length)).toArray.toList.take (flat (elems.take l ++ xs)).length) := by
          have ht : (arr.toList.take (l * te.size) ++ news).take (l * te.size + news.length) = arr.toList.take (l * te.size) ++ news := List.take_of_length_le (by simp; omega)
          rw [hfla, List.toList_toArray, List.take_append_of_le_length (by simp; omega), ht, flat_append]
          rw [hLsz] at hL0
          exact hL0.append nw.rel
        obtain ⟨μ', k1, k2, k3, k4⟩ := write_row s hb hbx rfl hrow (ep' := ep' + 1) (.inr (by omega)) hput (arr' := (arr.toList.take (l * te.size) ++ news ++ arr.toList.drop (l * te.size + news.length)).toArray)
          (by simp only [List.size_toArray, List.length_append, List.length_take, List.length_drop, Array.length_toList]; rw [← hsize]; omega) (by simp [hlt]; omega) (by simp) hua hsa hLn
        refine ⟨_, _, μ', hrun, ?_, k1, k2, k3⟩
        have hln : (elems.take l ++ xs).length = l + xs.length := by rw [List.length_append, hlt]
        rw [hln]
        exact .arr _ _ 0 _ false _ _ cp k4 (Nat.le_refl _) hroom (fun _ => ⟨by simp, by simp [hcap], by simp⟩)
      · -- there is none
        have ol : ∃ olds, Olds P w μ te.size (.slice ad l cp) (elems.take l) olds := by
          refine ⟨arr.toList.take (l * L.sz), ?_, hL0, hu0, hs0⟩
          rw [hlt]
          have hll : (arr.toList.take (l * L.sz)).length = l * te.size := by rw [← hL0.1, flat_length hu0, hlt]
          by_cases h0 : cp = 0
          · have hl0 : l = 0 := by omega
            subst hl0
            simp only [Nat.zero_mul, List.take_zero]
            cases ad with
            | none => exact run_firstCells_none w.drew te.size 0 0 cp
            | some y => exact run_firstCells_some w.drew te.size 0 y 0 cp [] (by simp) (by simp)
          · rw [c3 h0]
            refine run_firstCells_some w.drew te.size l _ l cp _ hll (fun j u hj => ?_)
            rw [add_none]
            rw [List.getElem?_take] at hj
            split at hj
            · show World.cell? w _ = _
              simp only [World.cell?, hrow]
              simpa using hj
            · simp at hj
        obtain ⟨olds, ol⟩ := ol
        have hsm' : ((elems.take l).length + xs.length) * te.bytes ≤ 70368744177664 := by rw [← hlt] at *; exact hsm
        have ol' : Olds P w μ te.size (.slice ad (elems.take l).length cp) (elems.take l) olds := by rw [hlt]; exact ol
        obtain ⟨z, newCap, hncap, hz, hrun⟩ := run_grow tys hd hte (ty' := ty') ol' nw (by rw [hlt]; omega) hb1 hsm'
        rw [hlt] at hrun hncap
        have hlen : olds.length + news.length = (l + xs.length) * te.size := by
          rw [← ol.rel.1, ← nw.rel.1, flat_length ol.uni, flat_length nw.uni, hlt, Nat.add_mul]
        have hfla : (flat (elems.take l ++ xs)).length = (l + xs.length) * te.size := by
          rw [flat_length hua, List.length_append, hlt, hLsz]
        have hLn : RelL w.heap μ (flat (elems.take l ++ xs)) (((olds ++ news).toArray ++ Builtin.zeroCells z.cells (newCap - (l + xs.length))).toList.take (flat (elems.take l ++ xs)).length) := by
          have ht : (olds ++ news).take ((l + xs.length) * te.size) = olds ++ news := List.take_of_length_le (by simp; omega)
          rw [hfla, Array.toList_append, List.toList_toArray, List.take_append_of_le_length (by simp; omega), ht, flat_append]
          exact ol.rel.append nw.rel
        have hln : (elems.take l ++ xs).length = l + xs.length := by rw [List.length_append, hlt]
        obtain ⟨k1, k2, k3⟩ := s.change (L' := ⟨ep' + 1, w.heap.size, newCap, L.sz⟩) (hp' := w.heap.push (.cells ((olds ++ news).toArray ++ Builtin.zeroCells z.cells (newCap - (l + xs.length))) el)) hb hput (by simp)
          (by intro i hi _; rw [Array.getElem?_push]; simp; omega) (.inr ⟨by simp; omega, .inr (Nat.le_refl _)⟩) (by
          intro hext
          refine ⟨rfl, by simp; omega, fun _ => ⟨⟨_, el, by simp, ?_, hLn.ext hext⟩, by simp [hlt]; omega, by simp, hua, hsa⟩, fun k => by simp at k⟩
          rw [grown_size hlen hz hncap, hLsz])
        refine ⟨_, _, _, hrun, ?_, k1, ⟨k2, rfl, rfl, rfl⟩, k3⟩
        rw [hln]
        exact .arr _ _ 0 _ false _ _ newCap (setMu_same _ _ _) (Nat.le_refl _) hncap (fun _ => ⟨by simp, by simp, by simp⟩)
    · simp at he0
end
end Go.TI
