/- The interpreter of trees, part 3 of 8: TiMapIt TiStep TiGrow TiCut TiLeave TiEnv TiCode TiFrame. -/
import Derived.Test.YtddpfdjgppabhaaGreatDoorTiJ2
import Derived.Orders
set_option linter.unusedSimpArgs false
set_option linter.unusedVariables false
/- Iterators over maps of at most one entry. -/
set_option linter.unusedVariables false
namespace Go.TI
open Go.MapKept
section
variable {P : Program} {cx : Ctx} {base : Nat} {w : World} {μ : Mu} {h h' : H} {mask : Nat} {e : Env} {a : Act} {o : Oper} {hp hp' : Array Obj} {p : T}

theorem entries_map (s : St cx base hp μ h) {mb m : Nat} {es : List T} (hx : RelV hp μ (.map mb) (.map (some m))) (hes : h.entries (.map mb) = some es) (hl : mapLike es = true) :
    ∃ esM : Array MapEntry, hp[m]? = some (.map esM esM.size) ∧ esM.size = es.length ∧
      ∀ (i : Nat) x, es[i]? = some x → ∃ k v me, x = .tuple [k, v] ∧ esM[i]? = some me ∧ me.born = i ∧ RelV hp μ k me.key ∧ RelV hp μ v me.val := by
  have hes : (bnd (h.get mb) fun bx => @Box.rec (fun _ => Option (List T)) (fun _ _ _ _ it elems => chk it (some elems)) bx) = some es := hes
  obtain ⟨bx, hbx, hes⟩ := bnd_eq_some.1 hes
  obtain ⟨sz, ep, ver, ex, it, elems⟩ := bx
  obtain ⟨hit, hes⟩ := chk_eq_some.1 hes
  simp only [Option.some.injEq] at hes; subst hes
  obtain ⟨L, i, e1, hb, hi⟩ := hx.inv_map
  simp only [Value.map.injEq, Option.some.injEq] at e1
  obtain ⟨l0, _, esM, m1, m2, m3⟩ := s.mapOf hb hbx hit hl
  exact ⟨esM, by rw [e1, hi l0]; exact m1, m2, m3⟩

theorem hRangeM_sound {t kt et : TypeId} {x : Operand} (s : St cx base w.heap μ h) (r : RelE w.heap μ mask e a.tmps) (ho : o.op = .range t x) (hm : P.underlying t = some (.map kt et)) {v : T}
    (hh : hRangeM x cx mask e h = some (.val v h')) : Done cx base w μ h.size ((execOp a.eval o).run P w) v h' := by
  replace hh := bnd_eq_some.1 hh; obtain ⟨p, hp, hh⟩ := hh
  cases p <;> simp only [reduceCtorEq] at hh
  rename_i mb
  replace hh := bnd_eq_some.1 hh; obtain ⟨es, hes, hh⟩ := hh
  replace hh := chk_eq_some.1 hh; obtain ⟨hl, hh⟩ := hh
  simp only [normNat_eq, bnd_some, lenN_eq] at hh
  rw [valNew_eq_some, H.new_cons] at hh
  simp only [Option.some.injEq, Prod.mk.injEq] at hh
  obtain ⟨rfl, rfl⟩ := hh
  have hx := opnd_sound s r hp
  obtain ⟨L, m, e1, hb, hi⟩ := hx.inv_map
  rw [e1] at hx
  obtain ⟨esM, m1, m2, m3⟩ := entries_map s hx hes hl
  obtain ⟨k1, k2, k3⟩ := s.new (.mapIter (some m) es.length #[] es.length) ⟨0, w.heap.size, 0, 1⟩ ⟨1, 0, 0, true, true, [.map mb, .int .i64 0, .int .i64 (.ofNat es.length), .int .i64 (.ofNat es.length)]⟩ rfl (by
    intro hext
    exact ⟨rfl, rfl, fun k => by simp at k, fun _ => ⟨rfl, .inr (.inr ⟨mb, m, 0, es.length, es.length, rfl, hx.ext hext, Nat.le_refl _, by simp⟩)⟩⟩)
  refine ⟨.pointer (some ⟨w.heap.size, 0, none⟩), { w with heap := w.heap.push (.mapIter (some m) es.length #[] es.length) }, _, .inl ?_, .iter _ _ _ (setMu_same _ _ _) (fun _ => rfl), k1, ⟨k2, rfl, rfl, rfl⟩, k3⟩
  simp [execOp, ho, Instr.range, run_underlying hm, e1, Go.MapKept.run_getObj_map (P := P) m1, m2]

theorem iter_form {x : Operand} (s : St cx base w.heap μ h) (r : RelE w.heap μ mask e a.tmps) {b : Nat} (hp : opnd cx mask e x = some (.iter b)) {bx : Box} (hbx : h.get b = some bx) (hit : bx.it = true) {mb pos since c0 : Nat} {k1 k2 k3 : IntKind}
    (hel : bx.elems = [.map mb, .int k1 (.ofNat pos), .int k2 (.ofNat since), .int k3 (.ofNat c0)]) :
    ∃ L m, a.eval x = .pointer (some ⟨L.blk, 0, none⟩) ∧ μ b = some L ∧ bx.ep = 0 ∧ bx.ep = L.ep ∧ bx.sz = L.sz ∧ RelV w.heap μ (.map mb) (.map (some m)) ∧ since ≤ c0 ∧ w.heap[L.blk]? = some (.mapIter (some m) since (Array.range pos) c0) := by
  have hx := opnd_sound s r hp
  obtain ⟨L, ad, e1, hb, had⟩ := hx.inv_iter
  obtain ⟨y, hy1, hy2⟩ := s.box b L hb
  rw [hbx] at hy1; simp only [Option.some.injEq] at hy1; subst hy1
  obtain ⟨hep, hor⟩ := hy2.iter hit
  have hL0 : L.ep = 0 := by rw [← hy2.ep]; exact hep
  rcases hor with ⟨str, p0, he, _⟩ | ⟨es, m1, m2, m3⟩ | ⟨mb', m, pos', since', c0', h1, h2, h3, h4⟩
  · rw [hel] at he; simp at he
  · obtain ⟨k, u, me, hq, _⟩ := m3 0 (.map mb) (by rw [hel]; rfl)
    simp at hq
  · rw [hel] at h1
    simp only [List.cons.injEq, T.map.injEq, T.int.injEq, Int.ofNat.injEq, and_true] at h1
    obtain ⟨rfl, ⟨_, rfl⟩, ⟨_, rfl⟩, _, rfl⟩ := h1
    exact ⟨L, m, by rw [e1, had hL0], hb, hep, hy2.ep, hy2.sz, h2, h3, h4⟩

theorem hNextM_sound {x : Operand} (s : St cx base w.heap μ h) (r : RelE w.heap μ mask e a.tmps) (ho : o.op = .next x false) {v : T}
    (hh : hNextM x cx mask e h = some (.val v h')) : Done cx base w μ h.size ((execOp a.eval o).run P w) v h' := by
  unfold hNextM at hh
  replace hh := bnd_eq_some.1 hh; obtain ⟨p, hp, hh⟩ := hh
  have hform : ∃ b, p = .iter b := by cases p <;> first | exact ⟨_, rfl⟩ | (simp at hh)
  obtain ⟨b, rfl⟩ := hform
  replace hh := bnd_eq_some.1 hh; obtain ⟨bx, hbx, hh⟩ := hh
  replace hh := chk_eq_some.1 hh; obtain ⟨hit, hh⟩ := hh
  split at hh
  rotate_left
  · simp at hh
  rename_i mb kk1 pos kk2 since kk3 c0 hel
  replace hh := bnd_eq_some.1 hh; obtain ⟨es, hes, hh⟩ := hh
  replace hh := chk_eq_some.1 hh; obtain ⟨hl, hh⟩ := hh
  replace hh := chk_eq_some.1 hh; obtain ⟨hn1, hh⟩ := hh
  replace hh := chk_eq_some.1 hh; obtain ⟨hns, hh⟩ := hh
  have hn1 := Nat.le_of_ble_eq_true hn1
  have hns := Nat.eq_of_beq_eq_true hns
  rw [lenN_eq] at hn1 hns
  obtain ⟨L, m, e1, hb, x0, xe, xs, hm, hsc, hblk⟩ := iter_form s r hp hbx hit hel
  obtain ⟨esM, m1, m2, m3⟩ := entries_map s hm hes hl
  have hborn : ∀ y ∈ esM.toList, ∃ j, j < es.length ∧ esM[j]? = some y ∧ y.born = j := by
    intro y hy
    obtain ⟨j, hj⟩ := List.mem_iff_getElem?.1 hy
    have hjl : j < es.length := by
      rcases Nat.lt_or_ge j es.length with q | q
      · exact q
      · rw [List.getElem?_eq_none (by simp; omega)] at hj; simp at hj
    obtain ⟨k, u, me, g1, g2, g3, _⟩ := m3 j es[j] (by simp [hjl])
    have : esM[j]? = some y := by simpa using hj
    rw [g2] at this
    simp only [Option.some.injEq] at this; subst this
    exact ⟨j, hjl, g2, g3⟩
  have hold : ∀ y ∈ esM.toList, y.born < since := by
    intro y hy
    obtain ⟨j, h1, _, h3⟩ := hborn y hy
    omega
  have hnx := run_next_at (P := P) w o.type L.blk m since c0 (Array.range pos) esM esM.size hblk m1 hold hsc
  have hLlt := s.lt hb
  cases hb1 : Nat.blt pos (lenN es) with
  | false =>
    rw [hb1] at hh
    have hh : some (Did.val (.tuple [.bool false]) h) = some (.val v h') := hh
    simp only [Option.some.injEq, Did.val.injEq] at hh
    obtain ⟨rfl, rfl⟩ := hh
    have hge : es.length ≤ pos := by
      rcases Nat.lt_or_ge pos es.length with q | q
      · rw [← Nat.blt_eq, ← lenN_eq, hb1] at q; simp at q
      · exact q
    rcases hnx with ⟨_, hrun⟩ | ⟨y, hy, _⟩
    · refine Done.pure s (c := .tuple #[.bool false]) ?_ ?_
      · simp only [execOp, ho, e1, Sem.run_bind, hrun, Result.andThen_ok, Sem.run_pure]
      · refine .tuple _ _ rfl fun k u hk => ?_
        match k, hk with
        | 0, hk => simp at hk; subst hk; exact .bool _
        | k + 1, hk => simp at hk
    · exfalso
      unfold leftOf at hy
      simp only [Array.toList_filter, List.mem_filter, Bool.not_eq_true'] at hy
      obtain ⟨j, h1, _, h3⟩ := hborn y hy.1
      have := hy.2
      rw [h3] at this
      have h4 : (Array.range pos).contains j = true := by simp; omega
      rw [h4] at this; simp at this
  | true =>
    rw [hb1] at hh
    have hlt : pos < es.length := by rw [← lenN_eq, ← Nat.blt_eq]; exact hb1
    have hp0 : pos = 0 := by omega
    subst hp0
    replace hh := bnd_eq_some.1 hh; obtain ⟨en, hen, hh⟩ := hh
    rw [nthD_eq] at hen
    obtain ⟨k, u, me, rfl, g2, g3, g4, g5⟩ := m3 0 en hen
    have hh : (bnd (normNat (Nat.succ 0)) fun pos' => bnd (normNat (Nat.succ bx.ver)) fun ver => bnd (normNat (lenN es)) fun n =>
              bnd (h.put b ⟨bx.sz, bx.ep, ver, bx.exact, true, [.map mb, .int .i64 (.ofNat pos'), .int .i64 (.ofNat since), .int .i64 (.ofNat n)]⟩) fun h' => some (Did.val (.tuple [.bool true, k, u]) h')) = some (.val v h') := hh
    simp only [normNat_eq, bnd_some, lenN_eq] at hh
    replace hh := bnd_eq_some.1 hh; obtain ⟨h2, hput, hh⟩ := hh
    simp only [Option.some.injEq, Did.val.injEq] at hh
    obtain ⟨rfl, rfl⟩ := hh
    rcases hnx with ⟨h0, _⟩ | ⟨y, hy, w1, hw1, hrun⟩
    · exfalso
      unfold leftOf at h0
      have : esM.filter (fun e => !(Array.range 0).contains e.born) = esM := by rw [Array.filter_eq_self]; intro z _; simp
      rw [this] at h0
      omega
    · have hym : y = me := by
        unfold leftOf at hy
        simp only [Array.toList_filter, List.mem_filter] at hy
        obtain ⟨j, h1, h2, h3⟩ := hborn y hy.1
        have hj : j = 0 := by omega
        subst hj
        rw [g2] at h2
        simp only [Option.some.injEq] at h2
        exact h2.symm
      subst hym
      have hheap : w1.heap = w.heap ∧ w1.os = w.os ∧ w1.tape = w.tape ∧ w1.output = w.output := by rcases hw1 with rfl | rfl <;> exact ⟨rfl, rfl, rfl, rfl⟩
      have hseen : (Array.range 0).push y.born = Array.range 1 := by rw [g3]; rfl
      rw [hseen] at hrun
      obtain ⟨k1, k2, k3⟩ := s.change (L' := L) (hp' := (ChangeMaps.setBlock w1 L.blk (.mapIter (some m) since (Array.range 1) esM.size)).heap) hb hput (by simp [ChangeMaps.setBlock, hheap.1]) (by
        intro i hi hne
        simp only [ChangeMaps.setBlock, hheap.1]
        rw [Array.getElem?_setIfInBounds_ne (Ne.symm hne)]) (.inl rfl) (by
        intro hext
        refine ⟨xe, xs, fun k => by simp at k, fun _ => ⟨x0, .inr (.inr ⟨mb, m, 1, since, es.length, rfl, hm.ext hext, by omega, ?_⟩)⟩⟩
        simp [ChangeMaps.setBlock, hheap.1, hLlt, m2])
      refine ⟨.tuple #[.bool true, y.key, y.val], _, _, .inl ?_, ?_, k1, ⟨k2, hheap.2.1, hheap.2.2.1, hheap.2.2.2⟩, k3⟩
      · simp only [execOp, ho, e1, Sem.run_bind, hrun, Result.andThen_ok, Sem.run_pure]
      · refine .tuple _ _ rfl fun n z hz => ?_
        match n, hz with
        | 0, hz => simp at hz; subst hz; exact .bool _
        | 1, hz => simp at hz; subst hz; exact g4.ext k2
        | 2, hz => simp at hz; subst hz; exact g5.ext k2
        | n + 3, hz => simp at hz

theorem hNext_sound {x : Operand} {isS : Bool} (s : St cx base w.heap μ h) (r : RelE w.heap μ mask e a.tmps) (ho : o.op = .next x isS) {v : T}
    (hh : hNext x isS cx mask e h = some (.val v h')) : Done cx base w μ h.size ((execOp a.eval o).run P w) v h' := by
  cases isS with
  | true => exact hNextS_sound s r ho hh
  | false => exact hNextM_sound s r ho hh

theorem hEntry_sound {x : Operand} (s : St cx base w.heap μ h) (r : RelE w.heap μ mask e a.tmps) (ho : o.op = .entry x) {v : T}
    (hh : hEntry x cx mask e h = some (.val v h')) : Done cx base w μ h.size ((execOp a.eval o).run P w) v h' := by
  unfold hEntry at hh
  replace hh := bnd_eq_some.1 hh; obtain ⟨p, hp, hh⟩ := hh
  have hform : ∃ b, p = .iter b := by cases p <;> first | exact ⟨_, rfl⟩ | (simp at hh)
  obtain ⟨b, rfl⟩ := hform
  replace hh := bnd_eq_some.1 hh; obtain ⟨bx, hbx, hh⟩ := hh
  replace hh := chk_eq_some.1 hh; obtain ⟨hit, hh⟩ := hh
  split at hh
  rotate_left
  · simp at hh
  rename_i mb kk1 pos kk2 since kk3 c0 hel
  replace hh := bnd_eq_some.1 hh; obtain ⟨es, hes, hh⟩ := hh
  replace hh := chk_eq_some.1 hh; obtain ⟨hl, hh⟩ := hh
  replace hh := chk_eq_some.1 hh; obtain ⟨hn, hh⟩ := hh
  have hn := Nat.eq_of_beq_eq_true hn
  rw [lenN_eq] at hn
  obtain ⟨L, m, e1, hb, x0, xe, xs, hm, hsc, hblk⟩ := iter_form s r hp hbx hit hel
  obtain ⟨esM, m1, m2, m3⟩ := entries_map s hm hes hl
  cases pos with
  | zero => exact absurd hh (by intro q; have q : (none : Option Did) = some (.val v h') := q; simp at q)
  | succ pos =>
    replace hh := bnd_eq_some.1 hh; obtain ⟨en, hen, hh⟩ := hh
    rw [nthD_eq] at hen
    obtain ⟨k, u, me, rfl, g2, g3, g4, g5⟩ := m3 pos en hen
    have hh : some (Did.val (.tuple [k, u]) h) = some (.val v h') := hh
    simp only [Option.some.injEq, Did.val.injEq] at hh
    obtain ⟨rfl, rfl⟩ := hh
    have hseen : Array.range (pos + 1) = (Array.range pos).push me.born := by rw [g3, Array.range_succ]; simp
    have hmem : me ∈ esM.toList := by
      have : esM.toList[pos]? = some me := by simpa using g2
      exact List.mem_of_getElem? this
    have hnod : (esM.toList.map (·.born)).Nodup := by
      have : esM.toList.map (·.born) = List.range esM.toList.length := by
        apply List.ext_getElem?
        intro j
        rw [List.getElem?_map]
        rcases Nat.lt_or_ge j es.length with q | q
        · obtain ⟨_, _, me', _, q2, q3, _⟩ := m3 j es[j] (by simp [q])
          have q2 : esM.toList[j]? = some me' := by simpa using q2
          rw [q2, List.getElem?_eq_getElem (by simp; omega)]
          simp [q3]
        · rw [List.getElem?_eq_none (by simp; omega), List.getElem?_eq_none (by simp; omega)]
          rfl
      rw [this]; exact List.nodup_range
    have hrun := run_entry_at (P := P) w L.blk m since (Array.range pos) esM esM.size me (by rw [hblk, hseen, m2, hn]) m1 hmem hnod
    refine Done.pure s (c := .tuple #[me.key, me.val]) ?_ ?_
    · simp only [execOp, ho, e1, Sem.run_bind, hrun, Result.andThen_ok, Sem.run_pure]
    · refine .tuple _ _ rfl fun n z hz => ?_
      match n, hz with
      | 0, hz => simp at hz; subst hz; exact g4
      | 1, hz => simp at hz; subst hz; exact g5
      | n + 2, hz => simp at hz
end
end Go.TI

/- One operation: every handler at once; what a call comes to. -/
namespace Go.TI
set_option linter.unusedVariables false

/-- What an operation or a call comes to: a value, at once or by a call that returns. -/
def Ran (P : Program) (K : Value → World → Prop) : Result Next → Prop
  | .ok (.value v) w' => K v w'
  | .ok .skip w' => K Go.undef w'
  | .ok (.enter f args) w' => Calls P f args w' fun
      | .returned v, w'' => K v w''
      | _, _ => False
  | _ => False

theorem Ran.mono {P : Program} {K K' : Value → World → Prop} {r : Result Next} (h : Ran P K r) (hk : ∀ v w, K v w → K' v w) : Ran P K' r := by
  cases r with
  | halt x w => exact h
  | ok n w =>
    cases n <;> simp only [Ran] at h ⊢ <;> first | exact h | exact hk _ _ h | skip
    exact Calls.mono h fun e w' he => by cases e <;> first | exact hk _ _ he | exact he

theorem Ran.wp {P : Program} {o : Oper} {a : Act} {w : World} {K : Value → World → Prop} {next : Act → World → Prop} {Q : Exit → Act → World → Prop}
    (h : Ran P K ((execOp a.eval o).run P w)) (hk : ∀ v w', K v w' → next (a.put o.dst v) w') : o.wp P a w next Q := by
  unfold Oper.wp
  generalize (execOp a.eval o).run P w = r at h
  cases r with
  | halt x w => exact h.elim
  | ok n w =>
    cases n <;> simp only [Ran] at h <;> simp only [Oper.upon] <;> first | exact h.elim | exact hk _ _ h | skip
    exact Calls.mono h fun e w' he => by cases e <;> first | exact hk _ _ he | exact he.elim

/-- A call that comes to a value has one. -/
theorem Ran.some {P : Program} {K : Value → World → Prop} {r : Result Next} (h : Ran P K r) : ∃ v w, K v w := by
  cases r with
  | halt x w => exact h.elim
  | ok n w =>
    cases n <;> simp only [Ran] at h <;> first | exact h.elim | exact ⟨_, _, h⟩ | skip
    obtain ⟨e, w', fr, he, _⟩ := h []
    cases e <;> first | exact ⟨_, _, he⟩ | exact he.elim

section
variable {P : Program} {cx : Ctx} {base : Nat} {w : World} {μ : Mu} {h h' : H} {mask : Nat} {e : Env} {a : Act} {o : Oper}

/-- The model's value and world behind an operation or a call. -/
def After (cx : Ctx) (base : Nat) (w : World) (μ : Mu) (n : Nat) (v : T) (h' : H) (c : Value) (w' : World) : Prop :=
  ∃ μ', RelV w'.heap μ' v c ∧ St cx base w'.heap μ' h' ∧ ExtW w μ w' μ' ∧ Dom μ μ' n h'.size

theorem Done.ran {r : Result Next} {n : Nat} {v : T} (h : Done cx base w μ n r v h') : Ran P (After cx base w μ n v h') r := by
  obtain ⟨c, w', μ', h1, h2, h3, h4, h5⟩ := h
  rcases h1 with rfl | ⟨rfl, rfl⟩
  · exact ⟨μ', h2, h3, h4, h5⟩
  · exact ⟨μ', h2, h3, h4, h5⟩

theorem hCall_val (tys : TysOk P cx) (s : St cx base w.heap μ h) (r : RelE w.heap μ mask e a.tmps) {c : Call} (ho : o.op = .call c) {v : T}
    (hh : hCall c cx mask e h = some (.val v h')) : Done cx base w μ h.size ((execOp a.eval o).run P w) v h' := by
  replace hh := bnd_eq_some.1 hh; obtain ⟨args, hargs, hh⟩ := hh
  cases hc : c.callee with
  | builtin b => rw [hc] at hh; exact builtin_sound tys s r ho hc hargs hh
  | invoke x m => rw [hc] at hh; simp at hh
  | value f =>
    rw [hc] at hh; simp only at hh
    replace hh := bnd_eq_some.1 hh; obtain ⟨q, hq, hh⟩ := hh
    cases q <;> simp only [reduceCtorEq] at hh
    replace hh := bnd_eq_some.1 hh; obtain ⟨l, hl, hh⟩ := hh
    simp at hh

theorem builtin_no_call {b : Builtin} {ts : List TypeId} {args : List T} {f : FuncId} {l : List T} (hh : builtinT b cx h ts args = some (.call f l)) : False := by
  have hval : ∀ {x : Option T}, val h x = some (.call f l) → False := fun hx => val_ne_call hx
  have hnew : ∀ {x : Option (T × H)}, valNew x = some (.call f l) → False := by
    intro x hx
    unfold valNew at hx
    cases x <;> simp [two] at hx
  cases b <;> simp only [builtinT, reduceCtorEq] at hh
  case len =>
    split at hh
    · replace hh := bnd_eq_some.1 hh; obtain ⟨t, _, hh⟩ := hh
      replace hh := bnd_eq_some.1 hh; obtain ⟨ty, _, hh⟩ := hh
      split at hh
      · split at hh
        · exact hval hh
        · simp at hh
      · split at hh <;> first | exact hval hh | (simp at hh)
      · exact hval hh
      · simp at hh
    · simp at hh
  case append =>
    split at hh
    · split at hh
      · replace hh := bnd_eq_some.1 hh; obtain ⟨t, _, hh⟩ := hh
        replace hh := bnd_eq_some.1 hh; obtain ⟨ty, _, hh⟩ := hh
        obtain ⟨_, hh⟩ := chk_eq_some.1 hh
        exact hnew hh
      · simp at hh
    · simp at hh
  case clear =>
    split at hh
    · split at hh
      · replace hh := bnd_eq_some.1 hh; obtain ⟨te, _, hh⟩ := hh
        split at hh
        · rename_i es _ ; cases es <;> simp at hh
        · simp at hh
        · rename_i m _
          cases m with
          | zero =>
            have hh : some (Did.val .undef h) = some (.call f l) := hh
            simp at hh
          | succ m =>
            replace hh := bnd_eq_some.1 hh; obtain ⟨bx, _, hh⟩ := hh
            obtain ⟨sz, ep', ver, ex, it, elems⟩ := bx
            obtain ⟨_, hh⟩ := chk_eq_some.1 hh
            obtain ⟨_, hh⟩ := chk_eq_some.1 hh
            cases it with
            | true => simp at hh
            | false =>
              replace hh := bnd_eq_some.1 hh; obtain ⟨_, _, hh⟩ := hh
              replace hh := bnd_eq_some.1 hh; obtain ⟨_, _, hh⟩ := hh
              replace hh := bnd_eq_some.1 hh; obtain ⟨_, _, hh⟩ := hh
              simp at hh
        · simp at hh
      · simp at hh
    · simp at hh
  case min => split at hh <;> first | exact hval hh | (simp at hh)
  case max => split at hh <;> first | exact hval hh | (simp at hh)

theorem hCall_call (s : St cx base w.heap μ h) (r : RelE w.heap μ mask e a.tmps) {c : Call} (ho : o.op = .call c) {f : FuncId} {l : List T}
    (hh : hCall c cx mask e h = some (.call f l)) : ∃ cargs : Array Value, RelL w.heap μ l cargs.toList ∧ (execOp a.eval o).run P w = (callFunc f cargs).run P w := by
  replace hh := bnd_eq_some.1 hh; obtain ⟨args, hargs, hh⟩ := hh
  have hL := opnds_sound s r hargs
  cases hc : c.callee with
  | builtin b => rw [hc] at hh; exact (builtin_no_call hh).elim
  | invoke x m => rw [hc] at hh; simp at hh
  | value g =>
    rw [hc] at hh; simp only at hh
    replace hh := bnd_eq_some.1 hh; obtain ⟨q, hq, hh⟩ := hh
    have hv := opnd_sound s r hq
    cases q <;> simp only [reduceCtorEq] at hh
    rename_i f' cap
    replace hh := bnd_eq_some.1 hh; obtain ⟨l', hl, hh⟩ := hh
    simp only [Option.some.injEq, Did.call.injEq] at hh
    obtain ⟨rfl, rfl⟩ := hh
    obtain ⟨cs, e1, hL2⟩ := hv.inv_func
    rw [appN_eq] at hl
    simp only [Option.some.injEq] at hl
    refine ⟨c.args.map a.eval ++ cs, ?_, ?_⟩
    · rw [← hl]; simpa using hL.append hL2
    · simp [execOp, ho, resolve, hc, e1, Deferred.ofValue, invoke]

/-- An operation that comes to a value. -/
theorem opH_val (tys : TysOk P cx) (s : St cx base w.heap μ h) (r : RelE w.heap μ mask e a.tmps) {v : T}
    (hh : opH o.op cx mask e h = some (.val v h')) : Done cx base w μ h.size ((execOp a.eval o).run P w) v h' := by
  cases ho : o.op <;> rw [ho] at hh <;> simp only [opH, reduceCtorEq] at hh
  case move x => exact hMove_sound s r (.inl ho) hh
  case assign x => exact hMove_sound s r (.inr ho) hh
  case pick => exact hPick_sound s r ho hh
  case alloc => exact hAlloc_sound tys s ho hh
  case box => exact hBox_sound s r ho hh
  case build => exact hBuild_sound tys s r ho hh
  case buildSlice => exact hBuildSlice_sound tys s r ho hh
  case load => exact hLoad_sound tys s r ho hh
  case store => exact hStore_sound tys s r ho hh
  case nilCheck => exact hNilCheck_sound s r ho hh
  case binOp op t x y u =>
    cases op <;> first
      | exact hEq_sound tys (neg := false) rfl s r ho hh
      | exact hEq_sound tys (neg := true) rfl s r ho hh
      | exact hBin_sound (by simp) (by simp) s r ho hh
  case unOp => exact hUn_sound s r ho hh
  case convert src dst x =>
    replace hh := bnd_eq_some.1 hh; obtain ⟨ts, hts, hh⟩ := hh
    replace hh := bnd_eq_some.1 hh; obtain ⟨p, hp, hh⟩ := hh
    replace hh := bnd_eq_some.1 hh; obtain ⟨d, hd, hh⟩ := hh
    split at hh
    · obtain ⟨hv, hq⟩ := val_eq_some.1 hh
      exact bytesT_sound tys s r ho ⟨ts, hts⟩ hp hv hq
    · rename_i hu
      split at hh
      · obtain ⟨hv, hq⟩ := val_eq_some.1 hh
        exact hConv_sound tys s r ho ⟨ts, hts⟩ hp hv hq
      · obtain ⟨hv, hq⟩ := val_eq_some.1 hh
        obtain ⟨dd, hdd, hud⟩ := und_of (tys.ty _ _ hd)
        rw [hu] at hud
        have := uOf_str hud; subst this
        exact strT_sound tys s r ho hdd hp hv hq
    · obtain ⟨hv, hq⟩ := val_eq_some.1 hh
      exact hConv_sound tys s r ho ⟨ts, hts⟩ hp hv hq
  case makeInterface => exact hIface_sound tys s r ho hh
  case makeFunc => exact hFunc_sound s r ho hh
  case makeSlice => exact hMakeSlice_sound tys s r ho hh
  case slice => exact hSlice_sound tys s r ho hh
  case fieldAddr => exact hFieldAddr_sound tys s r ho hh
  case field => exact hField_sound tys s r ho hh
  case indexAddr => exact hIndexAddr_sound tys s r ho hh
  case index => exact hIndex_sound tys s r ho hh
  case extract => exact hExtract_sound s r ho hh
  case makeMap => exact hMakeMap_sound tys s ho hh
  case lookup => exact hLookup_sound tys s r ho hh
  case mapUpdate => exact hMapUpdate_sound tys s r ho hh
  case range t x =>
    replace hh := bnd_eq_some.1 hh; obtain ⟨ty, hty, hh⟩ := hh
    obtain ⟨i, d, z, h1, h2, h3, h4, h5, _⟩ := (tys.ty t ty hty).unfold
    split at hh
    · rename_i hu
      rw [hu] at h5
      have := uOf_str h5; subst this
      exact hRange_sound s r ho h2 hh
    · rename_i kt et hu
      have := und_map h5 hu; subst this
      exact hRangeM_sound s r ho h2 hh
    · simp at hh
  case next => exact hNext_sound s r ho hh
  case entry => exact hEntry_sound s r ho hh
  case «call» => exact hCall_val tys s r ho hh

/-- No call is to be made. -/
def NC (x : Option Did) : Prop := ∀ f l, x ≠ some (.call f l)
theorem NC.none : NC none := fun _ _ => by simp
theorem NC.val {x : Option T} : NC (val h x) := fun _ _ => val_ne_call
theorem NC.some {v : T} : NC (some (.val v h)) := fun _ _ => by simp
theorem NC.new {x : Option (T × H)} : NC (valNew x) := fun _ _ => by unfold valNew; cases x <;> simp [two]
theorem NC.bnd {α : Type} {x : Option α} {f : α → Option Did} (h : ∀ y, NC (f y)) : NC (bnd x f) := by
  cases x with
  | none => exact NC.none
  | some y => exact h y
theorem NC.chk {b : Bool} {x : Option Did} (h : NC x) : NC (chk b x) := by
  cases b with
  | false => exact NC.none
  | true => exact h
theorem NC.bool {b : Bool} {x y : Option Did} (hx : NC x) (hy : NC y) : NC (Bool.casesOn b x y) := by
  cases b <;> assumption

theorem NC.opt {α : Type} {x : Option α} {y : Option Did} {f : α → Option Did} (hy : NC y) (hf : ∀ z, NC (f z)) : NC (Option.casesOn x y f) := by
  cases x with
  | none => exact hy
  | some z => exact hf z
theorem NC.nat {n : Nat} {y : Option Did} {f : Nat → Option Did} (hy : NC y) (hf : ∀ z, NC (f z)) : NC (Nat.casesOn n y f) := by
  cases n with
  | zero => exact hy
  | succ z => exact hf z
theorem nc_other {op : Op} (hc : ∀ c, op ≠ .call c) : NC (opH op cx mask e h) := by
  cases op <;> simp only [opH] <;> first
    | exact absurd rfl (hc _)
    | exact NC.none
    | skip
  all_goals
    first
      | unfold hMove | unfold hPick | unfold hAlloc | unfold hBox | unfold hBuild | unfold hBuildSlice | unfold hLoad | unfold hStore | unfold hNilCheck | unfold hUn | unfold hConv | unfold hIface | unfold hFunc
      | unfold hMakeSlice | unfold hSlice | unfold hFieldAddr | unfold hField | unfold hIndexAddr | unfold hIndex | unfold hExtract | unfold hRangeAt | unfold hNext | unfold hEntry | unfold hMakeMap | unfold hLookup | unfold hMapUpdate | skip
  case binOp op t x y u =>
    cases op <;> first
      | (simp only []; unfold hEq; exact NC.bnd fun _ => NC.bnd fun _ => NC.bnd fun _ => NC.chk (NC.bnd fun _ => NC.val))
      | (simp only []; unfold hBin; exact NC.bnd fun _ => NC.bnd fun _ => NC.val)
  all_goals
    repeat first
      | exact NC.none
      | exact NC.val
      | exact NC.some
      | exact NC.new
      | refine NC.bnd fun _ => ?_
      | refine NC.chk ?_
      | refine NC.bool ?_ ?_
      | split
      | unfold idxSlice
      | unfold idxArray
      | unfold hRange
      | unfold hRangeM
      | unfold hNextS
      | unfold hNextM
      | (refine NC.nat ?_ fun _ => ?_)
      | (refine NC.opt ?_ fun _ => ?_)
      | (unfold two)

theorem opH_call (s : St cx base w.heap μ h) (r : RelE w.heap μ mask e a.tmps) {f : FuncId} {l : List T}
    (hh : opH o.op cx mask e h = some (.call f l)) : (∃ c, o.op = .call c) ∧ ∃ cargs : Array Value, RelL w.heap μ l cargs.toList ∧ (execOp a.eval o).run P w = (callFunc f cargs).run P w := by
  by_cases hc : ∃ c, o.op = .call c
  · obtain ⟨c, ho⟩ := hc
    rw [ho] at hh
    exact ⟨⟨c, ho⟩, hCall_call s r ho hh⟩
  · exact absurd hh (nc_other (fun c hq => hc ⟨c, hq⟩) f l)
end
end Go.TI

/- How the interpreter's heap grows: sizes, the low mark, versions. -/
namespace Go.TI
set_option linter.unusedVariables false
set_option linter.unusedSectionVars false

/-- From one heap of the interpreter to a later one. -/
structure Grow (h h' : H) : Prop where
  wf : h'.boxes.length = h'.size
  size : h.size ≤ h'.size
  low : h'.low ≤ h.low
  keep : ∀ b, b < h.size → b < h'.low → h'.get b = h.get b
  ver : ∀ b x, h.get b = some x → ∃ x', h'.get b = some x' ∧ (x' = x ∨ x.ver < x'.ver)

theorem Grow.refl {h : H} (hw : h.boxes.length = h.size) : Grow h h := ⟨hw, Nat.le_refl _, Nat.le_refl _, fun _ _ _ => rfl, fun _ x hx => ⟨x, hx, .inl rfl⟩⟩

theorem Grow.trans {h h1 h2 : H} (a : Grow h h1) (b : Grow h1 h2) : Grow h h2 := by
  refine ⟨b.wf, Nat.le_trans a.size b.size, Nat.le_trans b.low a.low, fun c hc hl => ?_, fun c x hx => ?_⟩
  · rw [b.keep c (Nat.lt_of_lt_of_le hc a.size) hl, a.keep c hc (Nat.lt_of_lt_of_le hl b.low)]
  · obtain ⟨x1, h1, r1⟩ := a.ver c x hx
    obtain ⟨x2, h2, r2⟩ := b.ver c x1 h1
    refine ⟨x2, h2, ?_⟩
    rcases r1 with rfl | r1 <;> rcases r2 with rfl | r2
    · exact .inl rfl
    · exact .inr r2
    · exact .inr r1
    · exact .inr (Nat.lt_trans r1 r2)

theorem H.get_lt {h : H} {b : Nat} {x : Box} (hx : h.get b = some x) : b < h.size := by
  rw [H.get_eq] at hx
  by_cases hb : b < h.size
  · exact hb
  · simp [hb] at hx

theorem Grow.cons {h : H} (hw : h.boxes.length = h.size) (x : Box) : Grow h (h.cons x) := by
  refine ⟨by simp [H.cons, hw], by simp [H.cons], by simp [H.cons], fun b hb _ => H.get_cons_other hb x, fun b y hy => ⟨y, ?_, .inl rfl⟩⟩
  rw [H.get_cons_other (H.get_lt hy) x]; exact hy

theorem Grow.put {h h' : H} (hw : h.boxes.length = h.size) {b : Nat} {x y : Box} (hg : h.get b = some x) (hput : h.put b y = some h') (hv : x.ver < y.ver) : Grow h h' := by
  obtain ⟨p1, p2, p3, p4⟩ := put_get hput hw
  obtain ⟨q1, q2, rfl⟩ := H.put_eq_some.1 hput
  refine ⟨p2, by simp, ?_, fun c hc hl => p4 c ?_, fun c z hz => ?_⟩
  · simp only; split <;> omega
  · rintro rfl
    simp only at hl
    split at hl <;> omega
  · by_cases hcb : c = b
    · subst hcb
      rw [hg] at hz; simp only [Option.some.injEq] at hz; subst hz
      exact ⟨y, p3, .inr hv⟩
    · exact ⟨z, by rw [p4 c hcb]; exact hz, .inl rfl⟩

/-- What an operation leaves of the heap. -/
def Mv (h : H) (x : Option Did) : Prop := ∀ v h', x = some (.val v h') → Grow h h'

section
variable {h : H} 
theorem Mv.none (hw : h.boxes.length = h.size) : Mv h none := fun _ _ hh => by simp at hh
theorem Mv.val (hw : h.boxes.length = h.size) {x : Option T} : Mv h (val h x) := fun v h' hh => by obtain ⟨_, rfl⟩ := val_eq_some.1 hh; exact Grow.refl hw
theorem Mv.some (hw : h.boxes.length = h.size) {v : T} : Mv h (some (.val v h)) := fun v h' hh => by simp at hh; obtain ⟨_, rfl⟩ := hh; exact Grow.refl hw
theorem Mv.new (hw : h.boxes.length = h.size) {f : Nat → T} {x : Box} : Mv h (valNew (h.new f x)) := fun v h' hh => by
  rw [valNew_eq_some, H.new_cons] at hh
  simp only [Option.some.injEq, Prod.mk.injEq] at hh
  obtain ⟨_, rfl⟩ := hh
  exact Grow.cons hw x
theorem Mv.bnd (hw : h.boxes.length = h.size) {α : Type} {x : Option α} {f : α → Option Did} (hf : ∀ y, x = Option.some y → Mv h (f y)) : Mv h (bnd x f) := by
  cases x with
  | none => exact Mv.none hw
  | some y => exact hf y rfl
theorem Mv.chk (hw : h.boxes.length = h.size) {b : Bool} {x : Option Did} (hx : Mv h x) : Mv h (chk b x) := by
  cases b with
  | false => exact Mv.none hw
  | true => exact hx
theorem Mv.bool (hw : h.boxes.length = h.size) {b : Bool} {x y : Option Did} (hx : Mv h x) (hy : Mv h y) : Mv h (Bool.casesOn b x y) := by
  cases b <;> assumption

theorem Mv.opt (hw : h.boxes.length = h.size) {α : Type} {x : Option α} {y : Option Did} {f : α → Option Did} (hy : Mv h y) (hf : ∀ z, Mv h (f z)) : Mv h (Option.casesOn x y f) := by
  cases x with
  | none => exact hy
  | some z => exact hf z

theorem Mv.natc (hw : h.boxes.length = h.size) {n : Nat} {y : Option Did} {f : Nat → Option Did} (hy : Mv h y) (hf : ∀ z, Mv h (f z)) : Mv h (Nat.casesOn n y f) := by
  cases n with
  | zero => exact hy
  | succ z => exact hf z

theorem appendNew_grow (hw : h.boxes.length = h.size) {sz bytes : Nat} {old xs : List T} {v : T} {h' : H} (hh : h.appendNew sz bytes old xs = Option.some (v, h')) : Grow h h' := by
  replace hh := bnd_eq_some.1 hh; obtain ⟨es, _, hh⟩ := hh
  replace hh := bnd_eq_some.1 hh; obtain ⟨n, _, hh⟩ := hh
  obtain ⟨_, hh⟩ := chk_eq_some.1 hh
  obtain ⟨_, hh⟩ := chk_eq_some.1 hh
  obtain ⟨_, hh⟩ := chk_eq_some.1 hh
  obtain ⟨_, hh⟩ := chk_eq_some.1 hh
  rw [H.new_cons] at hh
  simp only [Option.some.injEq, Prod.mk.injEq] at hh
  obtain ⟨_, rfl⟩ := hh
  exact Grow.cons hw _

theorem appendOn_grow (hw : h.boxes.length = h.size) {sz bytes b ep l : Nat} {xs : List T} {v : T} {h' : H} (hh : h.appendOn sz bytes b ep l xs = Option.some (v, h')) : Grow h h' := by
  replace hh := bnd_eq_some.1 hh; obtain ⟨x, hx, hh⟩ := hh
  obtain ⟨sz', ep', ver, ex, it, elems⟩ := x
  simp only at hh
  replace hh := bnd_eq_some.1 hh; obtain ⟨es0, _, hh⟩ := hh
  replace hh := bnd_eq_some.1 hh; obtain ⟨es, _, hh⟩ := hh
  replace hh := bnd_eq_some.1 hh; obtain ⟨n, _, hh⟩ := hh
  obtain ⟨_, hh⟩ := chk_eq_some.1 hh
  obtain ⟨_, hh⟩ := chk_eq_some.1 hh
  obtain ⟨_, hh⟩ := chk_eq_some.1 hh
  obtain ⟨_, hh⟩ := chk_eq_some.1 hh
  obtain ⟨_, hh⟩ := chk_eq_some.1 hh
  cases it with
  | true => simp at hh
  | false =>
    simp only [normNat_eq, bnd_some] at hh
    replace hh := bnd_eq_some.1 hh; obtain ⟨h1, hput, hh⟩ := hh
    simp only [Option.some.injEq, Prod.mk.injEq] at hh
    obtain ⟨_, rfl⟩ := hh
    exact Grow.put hw hx hput (by show ver < ver.succ; omega)

theorem append_grow (hw : h.boxes.length = h.size) {sz bytes : Nat} {s : T} {xs : List T} {v : T} {h' : H} (hh : h.append sz bytes s xs = Option.some (v, h')) : Grow h h' := by
  unfold H.append at hh
  cases xs with
  | nil =>
    have hh : Go.TI.chk (isSliceT s) (Option.some (s, h)) = Option.some (v, h') := hh
    obtain ⟨_, hh⟩ := chk_eq_some.1 hh
    simp only [Option.some.injEq, Prod.mk.injEq] at hh
    obtain ⟨_, rfl⟩ := hh
    exact Grow.refl hw
  | cons y ys =>
    simp only at hh
    cases s <;> simp only [reduceCtorEq] at hh
    case tree es full =>
      cases es with
      | nil => exact appendNew_grow hw hh
      | cons z zs => obtain ⟨_, hh⟩ := chk_eq_some.1 hh; exact appendNew_grow hw hh
    case arr b ep o l full =>
      cases full with
      | false =>
        cases o with
        | zero => exact appendOn_grow hw hh
        | succ o => simp at hh
      | true => replace hh := bnd_eq_some.1 hh; obtain ⟨es, _, hh⟩ := hh; exact appendNew_grow hw hh

theorem store_grow (hw : h.boxes.length = h.size) {t : Ty} {a v : T} {h' : H} (hh : h.store t a v = Option.some h') : Grow h h' := by
  unfold H.store at hh
  cases a <;> simp only [reduceCtorEq] at hh
  obtain ⟨_, hh⟩ := chk_eq_some.1 hh
  replace hh := bnd_eq_some.1 hh; obtain ⟨x, hx, hh⟩ := hh
  obtain ⟨sz', ep', ver, ex, it, elems⟩ := x
  simp only at hh
  obtain ⟨_, hh⟩ := chk_eq_some.1 hh
  cases it with
  | true => simp at hh
  | false =>
    simp only at hh
    replace hh := bnd_eq_some.1 hh; obtain ⟨_, _, hh⟩ := hh
    replace hh := bnd_eq_some.1 hh; obtain ⟨_, _, hh⟩ := hh
    replace hh := bnd_eq_some.1 hh; obtain ⟨_, _, hh⟩ := hh
    simp only [normNat_eq, bnd_some] at hh
    exact Grow.put hw hx hh (by show ver < ver.succ; omega)

theorem mv_opH (hw : h.boxes.length = h.size) {op : Op} {cx : Ctx} {mask : Nat} {e : Env} : Mv h (opH op cx mask e h) := by
  cases op <;> simp only [opH] <;> first
    | exact Mv.none hw
    | skip
  case binOp op t x y u =>
    cases op <;> first
      | (simp only []; unfold hEq; exact Mv.bnd hw fun _ _ => Mv.bnd hw fun _ _ => Mv.bnd hw fun _ _ => Mv.chk hw (Mv.bnd hw fun _ _ => Mv.val hw))
      | (simp only []; unfold hBin; exact Mv.bnd hw fun _ _ => Mv.bnd hw fun _ _ => Mv.val hw)
  case store t a x =>
    unfold hStore
    refine Mv.bnd hw fun _ _ => Mv.bnd hw fun _ _ => Mv.bnd hw fun _ _ => Mv.chk hw (Mv.bnd hw fun h1 hs => ?_)
    intro v h' hh
    simp only [Option.some.injEq, Did.val.injEq] at hh
    obtain ⟨_, rfl⟩ := hh
    exact store_grow hw hs
  case mapUpdate t m k x =>
    unfold hMapUpdate
    refine Mv.bnd hw fun ty _ => ?_
    split
    · refine Mv.bnd hw fun _ _ => Mv.bnd hw fun _ _ => Mv.bnd hw fun _ _ => Mv.bnd hw fun _ _ => Mv.chk hw (Mv.chk hw ?_)
      split
      · rename_i b _
        refine Mv.bnd hw fun bx hbx => ?_
        obtain ⟨sz, ep, ver, ex, it, es⟩ := bx
        simp only
        refine Mv.chk hw (Mv.bnd hw fun r _ => ?_)
        simp only [normNat_eq, bnd_some]
        have key : ∀ es', Mv h (Go.TI.bnd (h.put b ⟨sz, ep, Nat.succ ver, ex, true, es'⟩) fun h' => Option.some (.val .undef h')) := by
          intro es'
          refine Mv.bnd hw fun h1 hput => ?_
          intro v h' hh
          simp only [Option.some.injEq, Did.val.injEq] at hh
          obtain ⟨_, rfl⟩ := hh
          exact Grow.put hw hbx hput (by show ver < ver.succ; omega)
        refine Mv.opt hw ?_ fun p => ?_
        · exact Mv.bnd hw fun es' _ => key es'
        · obtain ⟨i, u⟩ := p
          exact Mv.bnd hw fun es' _ => key es'
      · exact Mv.none hw
    · exact Mv.none hw
  case next it s =>
    unfold hNext
    refine Mv.bool hw ?_ ?_
    · unfold hNextM
      refine Mv.bnd hw fun v _ => ?_
      cases v <;> simp only <;> first | exact Mv.none hw | skip
      refine Mv.bnd hw fun x hx => Mv.chk hw ?_
      split
      · refine Mv.bnd hw fun es _ => Mv.chk hw (Mv.chk hw (Mv.chk hw (Mv.bool hw (Mv.some hw) (Mv.bnd hw fun en _ => ?_))))
        split
        · simp only [normNat_eq, bnd_some]
          refine Mv.bnd hw fun h1 hput => ?_
          intro v h' hh
          simp only [Option.some.injEq, Did.val.injEq] at hh
          obtain ⟨_, rfl⟩ := hh
          exact Grow.put hw hx hput (by show x.ver < x.ver.succ; omega)
        · exact Mv.none hw
      · exact Mv.none hw
    · unfold hNextS
      refine Mv.bnd hw fun v _ => ?_
      cases v <;> simp only <;> first | exact Mv.none hw | skip
      refine Mv.bnd hw fun x hx => Mv.chk hw ?_
      split
      · refine Mv.bool hw (Mv.some hw) (Mv.bnd hw fun c _ => ?_)
        obtain ⟨c, wd⟩ := c
        simp only [two_mk, normNat_eq, bnd_some]
        refine Mv.bnd hw fun h1 hput => ?_
        intro v h' hh
        simp only [Option.some.injEq, Did.val.injEq] at hh
        obtain ⟨_, rfl⟩ := hh
        exact Grow.put hw hx hput (by show x.ver < x.ver.succ; omega)
      · exact Mv.none hw
  case entry it =>
    unfold hEntry
    refine Mv.bnd hw fun v _ => ?_
    cases v <;> simp only <;> first | exact Mv.none hw | skip
    refine Mv.bnd hw fun x hx => Mv.chk hw ?_
    split
    · refine Mv.bnd hw fun es _ => Mv.chk hw (Mv.chk hw ?_)
      refine Mv.natc hw (Mv.none hw) fun p => Mv.bnd hw fun en _ => ?_
      split
      · exact Mv.some hw
      · exact Mv.none hw
    · exact Mv.none hw
  case «call» c =>
    unfold hCall
    refine Mv.bnd hw fun args _ => ?_
    split
    · rename_i b _
      cases b <;> simp only [builtinT] <;> first | exact Mv.none hw | skip
      case len =>
        split
        · unfold bLen
          refine Mv.bnd hw fun _ _ => Mv.bnd hw fun _ _ => ?_
          repeat first | exact Mv.none hw | exact Mv.val hw | split
        · exact Mv.none hw
      case append =>
        split
        · split
          · unfold bAppend
            refine Mv.bnd hw fun _ _ => Mv.bnd hw fun _ _ => Mv.chk hw ?_
            intro v h' hh
            exact append_grow hw (valNew_eq_some.1 hh)
          · exact Mv.none hw
        · exact Mv.none hw
      case clear =>
        split
        · split
          · unfold bClear
            refine Mv.bnd hw fun te _ => ?_
            split
            · rename_i es _ _ ; cases es
              · exact Mv.some hw
              · exact Mv.none hw
            · exact Mv.some hw
            · rename_i l _ _
              cases l with
              | zero => exact Mv.some hw
              | succ l =>
                refine Mv.bnd hw fun x hx => ?_
                refine Mv.chk hw (Mv.chk hw (Mv.bool hw ?_ ?_))
                · refine Mv.bnd hw fun es _ => ?_
                  simp only [normNat_eq, bnd_some]
                  refine Mv.bnd hw fun h1 hput => ?_
                  intro v h' hh
                  simp only [Option.some.injEq, Did.val.injEq] at hh
                  obtain ⟨_, rfl⟩ := hh
                  exact Grow.put hw hx hput (by show x.ver < x.ver.succ; omega)
                · exact Mv.none hw
            · exact Mv.none hw
          · exact Mv.none hw
        · exact Mv.none hw
      all_goals (split <;> first | exact Mv.val hw | exact Mv.none hw)
    · refine Mv.bnd hw fun v _ => ?_
      split
      · refine Mv.bnd hw fun l _ => ?_
        intro v h' hh
        simp at hh
      · exact Mv.none hw
    · exact Mv.none hw
  all_goals
    first
      | unfold hMove | unfold hPick | unfold hAlloc | unfold hBox | unfold hBuild | unfold hBuildSlice | unfold hLoad | unfold hNilCheck | unfold hUn | unfold hConv | unfold hIface | unfold hFunc
      | unfold hMakeSlice | unfold hSlice | unfold hFieldAddr | unfold hField | unfold hIndexAddr | unfold hIndex | unfold hExtract | unfold hMakeMap | unfold hLookup | unfold hRangeAt
  all_goals
    repeat first
      | exact Mv.none hw
      | exact Mv.val hw
      | exact Mv.some hw
      | exact Mv.new hw
      | refine Mv.bnd hw fun _ _ => ?_
      | refine Mv.chk hw ?_
      | refine Mv.bool hw ?_ ?_
      | split
      | unfold idxSlice
      | unfold idxArray
      | unfold hRange
      | unfold hRangeM
      | (refine Mv.opt hw ?_ fun _ => ?_)
      | (unfold two)
end
end Go.TI

/- Boxes that are forgotten: what leads to none of them stands as before. -/
namespace Go.TI
set_option linter.unusedVariables false

/-- Every box that the value leads to is below n. -/
inductive Low (n : Nat) : T → Prop where
  | undef : Low n .undef
  | bool (b : Bool) : Low n (.bool b)
  | int (k : IntKind) (m : Int) : Low n (.int k m)
  | str (s : List Nat) : Low n (.str s)
  | nilp : Low n .nilp
  | ptr (b ep i j : Nat) (h : b < n) : Low n (.ptr b ep i j)
  | tptr (cs : List T) (h : ∀ v ∈ cs, Low n v) : Low n (.tptr cs)
  | tree (es : List T) (full : Bool) (h : ∀ v ∈ flat es, Low n v) : Low n (.tree es full)
  | ewild : Low n .ewild
  | arr (b ep o l : Nat) (full : Bool) (h : b < n) : Low n (.arr b ep o l full)
  | func (f : FuncId) (cs : List T) (h : ∀ v ∈ cs, Low n v) : Low n (.func f cs)
  | nilf : Low n .nilf
  | nili : Low n .nili
  | iface (t : TypeId) (v : T) (h : Low n v) : Low n (.iface t v)
  | iter (b : Nat) (h : b < n) : Low n (.iter b)
  | map (b : Nat) (h : b < n) : Low n (.map b)
  | nilm : Low n .nilm
  | agg (cs : List T) (h : ∀ v ∈ cs, Low n v) : Low n (.agg cs)
  | tuple (vs : List T) (h : ∀ v ∈ vs, Low n v) : Low n (.tuple vs)

theorem Low.cells {n : Nat} {v : T} (h : Low n v) : ∀ x ∈ v.cells, Low n x := by
  cases h with
  | agg cs h => exact h
  | _ => intro x hx; simp [T.cells] at hx; subst hx; constructor <;> assumption

theorem Closed.low {v : T} (h : Closed v) (n : Nat) : Low n v := by
  induction h with
  | tree es full _ ih =>
    refine .tree es full fun v hv => ?_
    obtain ⟨e, he, hx⟩ := List.mem_flatMap.1 hv
    exact (ih e he).cells v hx
  | _ => constructor <;> assumption

theorem RelV.low {hp : Array Obj} {μ : Mu} {v : T} {c : Value} (h : RelV hp μ v c) {n : Nat} (hd : ∀ b L, μ b = some L → b < n) : Low n v := by
  induction h with
  | ptr b ep i j L a hb he ha => exact .ptr _ _ _ _ (hd _ _ hb)
  | arr b ep o l full L a cp hb he hl h => exact .arr _ _ _ _ _ (hd _ _ hb)
  | iter b L a hb h => exact .iter _ (hd _ _ hb)
  | map b L i hb h => exact .map _ (hd _ _ hb)
  | tptr cells blk off arr t fz hn hh hs hc hr ih => exact .tptr _ fun v hv => by obtain ⟨k, hk⟩ := List.mem_iff_getElem?.1 hv; exact ih k v hk
  | tree0 full a => exact .tree _ _ fun v hv => by simp [flat] at hv
  | tree e es full blk off cap sz arr t fz hn hh hl hf hu hs hc hr ih => exact .tree _ _ fun v hv => by obtain ⟨k, hk⟩ := List.mem_iff_getElem?.1 hv; exact ih k v hk
  | func f caps cs hs hr ih => exact .func _ _ fun v hv => by obtain ⟨k, hk⟩ := List.mem_iff_getElem?.1 hv; exact ih k v hk
  | agg cells cs hs hc hr ih => exact .agg _ fun v hv => by obtain ⟨k, hk⟩ := List.mem_iff_getElem?.1 hv; exact ih k v hk
  | tuple vs cs hs hr ih => exact .tuple _ fun v hv => by obtain ⟨k, hk⟩ := List.mem_iff_getElem?.1 hv; exact ih k v hk
  | iface t v c h ih => exact .iface _ _ ih
  | _ => constructor

def cutMu (n : Nat) (μ : Mu) : Mu := ⟨fun b => if b < n then μ b else none, μ.res⟩

theorem cutMu_lt {n b : Nat} {μ : Mu} (h : b < n) : cutMu n μ b = μ b := by simp [cutMu, h]
theorem cutMu_some {n b : Nat} {μ : Mu} {L : Loc} (h : cutMu n μ b = some L) : b < n ∧ μ b = some L := by
  have h : (if b < n then μ b else none) = some L := h
  split at h
  · exact ⟨by assumption, h⟩
  · simp at h
theorem not_cutMu {n i : Nat} {μ : Mu} (h : ¬ InMu μ i) : ¬ InMu (cutMu n μ) i := by
  rintro (⟨b, L, hb, rfl⟩ | hr)
  · exact h (.inl ⟨b, L, (cutMu_some hb).2, rfl⟩)
  · exact h (.inr hr)

theorem RelV.cut {hp : Array Obj} {μ : Mu} {v : T} {c : Value} (h : RelV hp μ v c) {n : Nat} (hl : Low n v) : RelV hp (cutMu n μ) v c := by
  induction h with
  | undef => exact .undef
  | bool b => exact .bool b
  | int k m => exact .int k m
  | str s h => exact .str s h
  | nilp => exact .nilp
  | ptr b ep i j L a hb he ha => cases hl with | ptr _ _ _ _ h => exact .ptr b ep i j L a (by rw [cutMu_lt h]; exact hb) he ha
  | tptr cells blk off arr t fz hn hh hs hc hr ih =>
    cases hl with | tptr _ h => exact .tptr cells blk off arr t fz (not_cutMu hn) hh hs hc fun k v hk => ih k v hk (h v (List.mem_of_getElem? hk))
  | tree0 full a => exact .tree0 full a
  | tree e es full blk off cap sz arr t fz hn hh hl' hf hu hs hc hr ih =>
    cases hl with | tree _ _ h => exact .tree e es full blk off cap sz arr t fz (not_cutMu hn) hh hl' hf hu hs hc fun k v hk => ih k v hk (h v (List.mem_of_getElem? hk))
  | ewild a cap => exact .ewild a cap
  | arr b ep o l full L a cp hb he hl' h' => cases hl with | arr _ _ _ _ _ h => exact .arr b ep o l full L a cp (by rw [cutMu_lt h]; exact hb) he hl' h'
  | func f caps cs hs hr ih => cases hl with | func _ _ h => exact .func f caps cs hs fun k v hk => ih k v hk (h v (List.mem_of_getElem? hk))
  | nilf => exact .nilf
  | nili => exact .nili
  | iface t v c h ih => cases hl with | iface _ _ h => exact .iface t v c (ih h)
  | iter b L a hb h' => cases hl with | iter _ h => exact .iter b L a (by rw [cutMu_lt h]; exact hb) h'
  | map b L i hb h' => cases hl with | map _ h => exact .map b L i (by rw [cutMu_lt h]; exact hb) h'
  | nilm => exact .nilm
  | agg cells cs hs hc hr ih => cases hl with | agg _ h => exact .agg cells cs hs hc fun k v hk => ih k v hk (h v (List.mem_of_getElem? hk))
  | tuple vs cs hs hr ih => cases hl with | tuple _ h => exact .tuple vs cs hs fun k v hk => ih k v hk (h v (List.mem_of_getElem? hk))

theorem RelL.cut {hp : Array Obj} {μ : Mu} {vs : List T} {cs : List Value} (h : RelL hp μ vs cs) {n : Nat} (hl : ∀ v ∈ vs, Low n v) : RelL hp (cutMu n μ) vs cs :=
  ⟨h.1, fun k v hv => (h.2 k v hv).cut (hl v (List.mem_of_getElem? hv))⟩

/-- The cells of a box that is left as it is. -/
theorem BoxOk.cut {hp : Array Obj} {μ : Mu} {L : Loc} {x : Box} (h : BoxOk hp μ L x) {n : Nat} (hl : ∀ v ∈ flat x.elems, Low n v) : BoxOk hp (cutMu n μ) L x := by
  refine ⟨h.ep, h.sz, fun k => ?_, fun k => ?_⟩
  · have p := h.plain k
    obtain ⟨arr, t, h1, h2, h3⟩ := p.row
    exact ⟨⟨arr, t, h1, h2, h3.cut hl⟩, p.room, p.exact_, p.size, p.scalar⟩
  · obtain ⟨h0, h1 | ⟨es, h1, h2, h3⟩ | ⟨mb, m, pos, since, c0, h1, h2, h3, h4⟩⟩ := h.iter k
    · exact ⟨h0, .inl h1⟩
    rotate_left
    · exact ⟨h0, .inr (.inr ⟨mb, m, pos, since, c0, h1, h2.cut (hl _ (by rw [h1]; simp [flat, T.cells])), h3, h4⟩)⟩
    · refine ⟨h0, .inr (.inl ⟨es, h1, h2, fun i y hy => ?_⟩)⟩
      obtain ⟨k, v, me, g1, g2, g3, g4, g5⟩ := h3 i y hy
      have hlow := hl y (List.mem_flatMap.2 ⟨y, List.mem_of_getElem? hy, by rw [g1]; simp [T.cells]⟩)
      rw [g1] at hlow
      cases hlow with | tuple _ hlow => exact ⟨k, v, me, g1, g2, g3, g4.cut (hlow k (by simp)), g5.cut (hlow v (by simp))⟩

/-- What lies in a box leads to boxes below the heap's size. -/
theorem BoxOk.low {hp : Array Obj} {μ : Mu} {L : Loc} {x : Box} (h : BoxOk hp μ L x) {n : Nat} (hd : ∀ b L, μ b = some L → b < n) : ∀ v ∈ flat x.elems, Low n v := by
  intro v hv
  cases hi : x.it with
  | false =>
    obtain ⟨arr, t, h1, h2, h3⟩ := (h.plain hi).row
    obtain ⟨k, hk⟩ := List.mem_iff_getElem?.1 hv
    exact (h3.2 k v hk).low hd
  | true =>
    obtain ⟨_, ⟨s, pos, he, _⟩ | ⟨es, h1, h2, h3⟩ | ⟨mb, m, pos, since, c0, h1, h2, h3, h4⟩⟩ := h.iter hi
    · rw [he] at hv
      simp [flat, T.cells] at hv
      rcases hv with rfl | rfl <;> constructor
    rotate_left
    · rw [h1] at hv
      simp [flat, T.cells] at hv
      rcases hv with rfl | rfl | rfl | rfl
      · exact h2.low hd
      all_goals constructor
    · obtain ⟨y, hy, hvy⟩ := List.mem_flatMap.1 hv
      obtain ⟨i, hi⟩ := List.mem_iff_getElem?.1 hy
      obtain ⟨k, u, me, g1, g2, g3, g4, g5⟩ := h3 i y hi
      rw [g1] at hvy
      simp [T.cells] at hvy
      subst hvy
      refine .tuple _ fun z hz => ?_
      simp at hz
      rcases hz with rfl | rfl
      · exact g4.low hd
      · exact g5.low hd

/-- A list against a list, one by one. -/
inductive All2 {α β : Type} (R : α → β → Prop) : List α → List β → Prop where
  | nil : All2 R [] []
  | cons {a : α} {b : β} {l : List α} {m : List β} (h : R a b) (t : All2 R l m) : All2 R (a :: l) (b :: m)

theorem All2.imp {α β : Type} {R R' : α → β → Prop} {l : List α} {m : List β} (h : All2 R l m) (hi : ∀ a b, R a b → R' a b) : All2 R' l m := by
  induction h with
  | nil => exact .nil
  | cons a _ ih => exact .cons (hi _ _ a) ih
theorem All2.length {α β : Type} {R : α → β → Prop} {l : List α} {m : List β} (h : All2 R l m) : l.length = m.length := by
  induction h with
  | nil => rfl
  | cons _ _ ih => simp [ih]
theorem All2.append {α β : Type} {R : α → β → Prop} {l l' : List α} {m m' : List β} (h : All2 R l m) (h' : All2 R l' m') : All2 R (l ++ l') (m ++ m') := by
  induction h with
  | nil => exact h'
  | cons a _ ih => exact .cons a ih
theorem All2.get {α β : Type} {R : α → β → Prop} {l : List α} {m : List β} (h : All2 R l m) {k : Nat} {y : β} (hy : m[k]? = some y) : ∃ x, l[k]? = some x ∧ R x y := by
  induction h generalizing k with
  | nil => simp at hy
  | cons a _ ih => cases k with
    | zero => simp at hy; subst hy; exact ⟨_, by simp, a⟩
    | succ k => simp at hy; simpa using ih hy
theorem All2.mem {α β : Type} {R : α → β → Prop} {l : List α} {m : List β} (h : All2 R l m) {y : β} (hy : y ∈ m) : ∃ x ∈ l, R x y := by
  obtain ⟨k, hk⟩ := List.mem_iff_getElem?.1 hy
  obtain ⟨x, hx, r⟩ := h.get hk
  exact ⟨x, List.mem_of_getElem? hx, r⟩
theorem All2.map {α : Type} {f : α → Option α} {R : α → α → Prop} {l m : List α} (hf : ∀ x ∈ l, ∀ y, f x = some y → R x y) (h : mapOpt f l = some m) : All2 R l m := by
  induction l generalizing m with
  | nil => simp at h; subst h; exact .nil
  | cons x l ih =>
    rw [mapOpt_cons] at h
    replace h := bnd_eq_some.1 h; obtain ⟨y, hy, h⟩ := h
    replace h := bnd_eq_some.1 h; obtain ⟨t, ht, h⟩ := h
    simp at h; subst h
    exact .cons (hf x (by simp) y hy) (ih (fun z hz => hf z (by simp [hz])) ht)

/-- v' stands, behind the cut, for whatever v stands for. -/
structure Fz (hp : Array Obj) (μ : Mu) (n : Nat) (v v' : T) : Prop where
  rel : ∀ c, RelV hp μ v c → RelV hp (cutMu n μ) v' c
  scalar : v'.scalar = v.scalar
  cells : All2 (fun x x' => (∀ c, RelV hp μ x c → RelV hp (cutMu n μ) x' c) ∧ x'.scalar = x.scalar ∧ Closed x') v.cells v'.cells
  closed : Closed v'

theorem All2.flat {R : T → T → Prop} {es es' : List T} (h : All2 (fun x x' => All2 R x.cells x'.cells) es es') : All2 R (TI.flat es) (TI.flat es') := by
  induction h with
  | nil => exact .nil
  | cons a _ ih => simpa [TI.flat] using All2.append a ih

section
variable {cx : Ctx} {base : Nat} {hp : Array Obj} {μ : Mu} {h : H} {n : Nat}

theorem Fz.same {v : T} (hl : Closed v) (hc : v.cells = [v]) : Fz hp μ n v v :=
  ⟨fun c hc => hc.cut (hl.low n), rfl, by rw [hc]; exact .cons ⟨fun c hc => hc.cut (hl.low n), rfl, hl⟩ .nil, hl⟩

theorem closed_of_cells {v : T} (hv : ∀ x ∈ v.cells, Closed x) : Closed v := by
  cases v with
  | agg cs => exact .agg cs hv
  | _ => exact hv _ (by simp [T.cells])

theorem relL_of_all {vs : List T} (hv : ∀ x ∈ vs, ∃ c, RelV hp μ x c) : ∃ cs, RelL hp μ vs cs := by
  induction vs with
  | nil => exact ⟨[], RelL.nil⟩
  | cons v vs ih =>
    obtain ⟨c, hc⟩ := hv v (by simp)
    obtain ⟨cs, hcs⟩ := ih fun x hx => hv x (by simp [hx])
    exact ⟨c :: cs, RelL.cons hc hcs⟩

theorem rel_of_cells {v : T} (hv : ∀ x ∈ v.cells, ∃ c, RelV hp μ x c) (hs : ∀ x ∈ v.cells, x.scalar = true) : ∃ c, RelV hp μ v c := by
  cases v with
  | agg cs =>
    obtain ⟨l, hl⟩ := relL_of_all hv
    exact ⟨.agg l.toArray, RelV.aggOf (by have hl : RelL hp μ cs l := hl; simpa using hl) hs⟩
  | _ => exact hv _ (by simp [T.cells])

theorem RelL.mem {vs : List T} {cs : List Value} (h : RelL hp μ vs cs) {v : T} (hv : v ∈ vs) : ∃ c, RelV hp μ v c := by
  obtain ⟨k, hk⟩ := List.mem_iff_getElem?.1 hv
  exact ⟨_, h.2 k v hk⟩

theorem freeze_sound (s : St cx base hp μ h) : ∀ (d : Nat) (v v' : T), (∃ c, RelV hp μ v c) → freeze h n d v = some v' → Fz hp μ n v v' := by
  intro d
  induction d with
  | zero => intro v v' _ hh; simp [freeze] at hh
  | succ d ih =>
    intro v v' hex hh
    cases v with
    | undef => exact absurd hh (by show ¬ (none = some v'); simp)
    | ptr => exact absurd hh (by show ¬ (none = some v'); simp)
    | tptr => exact absurd hh (by show ¬ (none = some v'); simp)
    | func => exact absurd hh (by show ¬ (none = some v'); simp)
    | iface => exact absurd hh (by show ¬ (none = some v'); simp)
    | iter => exact absurd hh (by show ¬ (none = some v'); simp)
    | map => exact absurd hh (by show ¬ (none = some v'); simp)
    | nilm => exact absurd hh (by show ¬ (none = some v'); simp)
    | tuple => exact absurd hh (by show ¬ (none = some v'); simp)
    | bool b => have hh : some (T.bool b) = some v' := hh; simp only [Option.some.injEq] at hh; subst hh; exact Fz.same (.bool b) rfl
    | int k m => have hh : some (T.int k m) = some v' := hh; simp only [Option.some.injEq] at hh; subst hh; exact Fz.same (.int k m) rfl
    | str b => have hh : some (T.str b) = some v' := hh; simp only [Option.some.injEq] at hh; subst hh; exact Fz.same (.str b) rfl
    | nilp => have hh : some (T.nilp) = some v' := hh; simp only [Option.some.injEq] at hh; subst hh; exact Fz.same .nilp rfl
    | ewild => have hh : some (T.ewild) = some v' := hh; simp only [Option.some.injEq] at hh; subst hh; exact Fz.same .ewild rfl
    | nilf => have hh : some (T.nilf) = some v' := hh; simp only [Option.some.injEq] at hh; subst hh; exact Fz.same .nilf rfl
    | nili => have hh : some (T.nili) = some v' := hh; simp only [Option.some.injEq] at hh; subst hh; exact Fz.same .nili rfl
    | tree es full =>
      have hh : some (T.tree es full) = some v' := hh
      simp only [Option.some.injEq] at hh; subst hh
      obtain ⟨c, hc⟩ := hex
      refine Fz.same ?_ rfl
      cases hc with
      | tree0 => exact .tree _ _ fun v hv => by simp at hv
      | tree e es full blk off cap sz arr t fz hn hh hl hf hu hs hc hr =>
        exact .tree _ _ fun v hv => closed_of_cells fun x hx => (hc x (List.mem_flatMap.2 ⟨v, hv, hx⟩)).2
    | agg cs =>
      have hh : (bnd (mapOpt (freeze h n d) cs) fun r => some (T.agg r)) = some v' := hh
      replace hh := bnd_eq_some.1 hh; obtain ⟨r, hr, hh⟩ := hh
      simp only [Option.some.injEq] at hh; subst hh
      obtain ⟨c, hc⟩ := hex
      obtain ⟨ca, rfl, hL, hsc⟩ := hc.inv_agg
      have h2 : All2 (Fz hp μ n) cs r := All2.map (fun x hx y hy => ih x y (hL.mem hx) hy) hr
      have hcl : ∀ v ∈ r, Closed v := fun v hv => by obtain ⟨x, _, hx⟩ := h2.mem hv; exact hx.closed
      have hsr : ∀ v ∈ r, v.scalar = true := fun v hv => by obtain ⟨x, hm, hx⟩ := h2.mem hv; rw [hx.scalar]; exact hsc x hm
      refine ⟨fun c hc => ?_, rfl, ?_, .agg r hcl⟩
      · obtain ⟨ca, rfl, hL, _⟩ := hc.inv_agg
        refine RelV.aggOf ⟨by rw [← h2.length]; exact hL.1, fun k v hk => ?_⟩ hsr
        obtain ⟨x, hx, hf⟩ := h2.get hk
        exact hf.rel _ (hL.2 k x hx)
      · show All2 _ cs r
        exact h2.imp fun a b hab => ⟨hab.rel, hab.scalar, hab.closed⟩
    | arr b ep o l full =>
      have hh : chk (Nat.ble n b) (bnd (h.get b) fun x => @Box.rec (fun _ => Option T) (fun _ ep' _ exact it elems =>
        chk (Nat.beq ep' ep) (@Bool.rec (fun _ => Option T) (bnd (bnd (dropN o elems) fun r => takeN l r) fun es => bnd (mapOpt (freeze h n d) es) fun es' =>
          @List.rec T (fun _ => Option T) (@List.rec T (fun _ => Option T) (@Bool.rec (fun _ => Option T) (some .ewild) (some (.tree [] false)) exact) (fun _ _ _ => some .ewild) elems) (fun _ _ _ => some (.tree es' full)) es') none it)) x) = some v' := hh
      obtain ⟨hnb, hh⟩ := chk_eq_some.1 hh
      have hnb : n ≤ b := Nat.le_of_ble_eq_true hnb
      replace hh := bnd_eq_some.1 hh; obtain ⟨bx, hbx, hh⟩ := hh
      obtain ⟨sz, ep', ver, ex, it, elems⟩ := bx
      simp only at hh
      obtain ⟨hep, hh⟩ := chk_eq_some.1 hh
      have hep : ep' = ep := Nat.eq_of_beq_eq_true hep
      cases it with
      | true => simp at hh
      | false =>
        replace hh := bnd_eq_some.1 hh; obtain ⟨es, hes, hh⟩ := hh
        replace hh := bnd_eq_some.1 hh; obtain ⟨es', hes', hq⟩ := hh
        obtain ⟨hlen, hes⟩ : o + l ≤ elems.length ∧ es = (elems.drop o).take l := by
          replace hes := bnd_eq_some.1 hes; obtain ⟨r0, h1, h2⟩ := hes
          rw [dropN_eq] at h1
          split at h1
          · simp only [Option.some.injEq] at h1; subst h1
            rw [takeN_eq] at h2
            split at h2
            · simp only [Option.some.injEq] at h2
              rename_i hlt hle
              simp only [List.length_drop] at hle
              exact ⟨by omega, h2.symm⟩
            · simp at h2
          · simp at h1
        have key : ∀ c, RelV hp μ (.arr b ep o l full) c → RelV hp (cutMu n μ) v' c ∧ Closed v' ∧ v'.cells = [v'] ∧ v'.scalar = true := by
          intro c hc
          obtain ⟨L, ad, cp, rfl, hb, he, hl, hrest⟩ := hc.inv_arr
          obtain ⟨x', hx1, hx2⟩ := s.box b L hb
          rw [hbx] at hx1
          simp only [Option.some.injEq] at hx1; subst hx1
          have hLe := hx2.ep
          simp only at hLe
          obtain ⟨hfull, hnf, had⟩ := hrest (by omega)
          have p := hx2.plain rfl
          simp only at p
          obtain ⟨arr, t, h1, h2, h3⟩ := p.row
          have hesz : ∀ v ∈ es, v.cells.length = L.sz := fun v hv => p.size v (List.mem_of_mem_drop (List.mem_of_mem_take (hes ▸ hv)))
          have hrel : ∀ v ∈ flat elems, ∃ c, RelV hp μ v c := fun v hv => h3.mem hv
          have hmem : ∀ v ∈ es, v ∈ elems := fun v hv => List.mem_of_mem_drop (List.mem_of_mem_take (hes ▸ hv))
          have h4 : All2 (Fz hp μ n) es es' := All2.map (fun x hx y hy => ih x y (rel_of_cells (fun z hz => hrel z (List.mem_flatMap.2 ⟨x, hmem x hx, hz⟩)) fun z hz => p.scalar z (List.mem_flatMap.2 ⟨x, hmem x hx, hz⟩)) hy) hes'
          have hlen' : es'.length = l := by rw [← h4.length, hes]; simp; omega
          have hcap : ex = true → L.cap = elems.length := p.exact_
          cases es' with
          | nil =>
            have hl0 : l = 0 := by simpa using hlen'.symm
            subst hl0
            have he : v' = .ewild ∨ (elems = [] ∧ ex = true ∧ v' = .tree [] false) := by
              cases elems with
              | cons z zs => have hh : some T.ewild = some v' := hq; simp only [Option.some.injEq] at hh; exact .inl hh.symm
              | nil =>
                cases ex with
                | false => have hh : some T.ewild = some v' := hq; simp only [Option.some.injEq] at hh; exact .inl hh.symm
                | true => have hh : some (T.tree [] false) = some v' := hq; simp only [Option.some.injEq] at hh; exact .inr ⟨rfl, rfl, hh.symm⟩
            rcases he with rfl | ⟨rfl, rfl, rfl⟩
            · exact ⟨.ewild _ _, .ewild, rfl, rfl⟩
            · have hc0 : L.cap = 0 := by simpa using hcap rfl
              have : cp = 0 := by
                cases full with
                | false => have := hnf rfl; omega
                | true => exact hfull rfl
              subst this
              exact ⟨.tree0 _ _, .tree _ _ fun v hv => by simp at hv, rfl, rfl⟩
          | cons y ys =>
            have hh : some (T.tree (y :: ys) full) = some v' := hq
            simp only [Option.some.injEq] at hh; subst hh
            simp only [List.length_cons] at hlen'
            have hcl : ∀ v ∈ y :: ys, Closed v := fun v hv => by obtain ⟨x, _, hx⟩ := h4.mem hv; exact hx.closed
            refine ⟨?_, .tree _ _ hcl, rfl, rfl⟩
            rw [had (by omega), ← hlen']
            have hfl := All2.flat (h4.imp fun a b hab => hab.cells)
            have hflen : (flat (y :: ys)).length = l * L.sz := by rw [← hfl.length, flat_length hesz, hes]; congr 1; simp; omega
            have hfe : flat es = ((flat elems).drop (o * L.sz)).take (l * L.sz) := by rw [hes]; exact flat_cut p.size o l
            have hfel : (flat elems).length = elems.length * L.sz := flat_length p.size
            have hbound : o * L.sz + l * L.sz ≤ elems.length * L.sz := by rw [← Nat.add_mul]; exact Nat.mul_le_mul_right _ hlen
            have hbound2 : elems.length * L.sz ≤ L.cap * L.sz := Nat.mul_le_mul_right _ p.room
            refine .tree y ys full L.blk (o * L.sz) cp L.sz arr t (0, 0) ?_ h1 (by omega) (fun k => by rw [hfull k]; omega) ?_ ?_ ?_ ?_
            · rintro (⟨b', L', hb', hblk⟩ | hr)
              · obtain ⟨q1, q2⟩ := cutMu_some hb'
                have := s.inj b' b L' L q2 hb hblk
                omega
              · exact s.apart b L hb hr
            · intro v hv
              obtain ⟨x, hx, hxv⟩ := h4.mem hv
              rw [← hxv.cells.length]
              exact hesz x hx
            · rw [hflen, h2]; omega
            · intro v hv
              obtain ⟨x, hx, hx1, hx2, hx3⟩ := hfl.mem hv
              refine ⟨?_, hx3⟩
              rw [hx2]
              rw [hfe] at hx
              exact p.scalar x (List.mem_of_mem_drop (List.mem_of_mem_take hx))
            · intro k v hv
              obtain ⟨x, hx, hx1, _⟩ := hfl.get hv
              refine hx1 _ ?_
              rw [hfe, List.getElem?_take] at hx
              split at hx
              · rename_i hk
                rw [List.getElem?_drop] at hx
                have := h3.2 _ x hx
                have hlt : o * L.sz + k < (flat elems).length := by rw [hfel]; omega
                have hlt2 : o * L.sz + k < arr.size := by rw [h2]; omega
                simpa [List.getD, List.getElem?_take, hlt, Array.getD_eq_getD_getElem?, hlt2] using this
              · simp at hx
        obtain ⟨c0, hc0⟩ := hex
        obtain ⟨_, k2, k3, k4⟩ := key c0 hc0
        exact ⟨fun c hc => (key c hc).1, by rw [k4]; rfl, by rw [k3]; exact .cons ⟨fun c hc => (key c hc).1, by rw [k4]; rfl, k2⟩ .nil, k2⟩
end
end Go.TI

/- The end of a call: what it hands back is frozen, its own boxes are forgotten. -/
namespace Go.TI
set_option linter.unusedVariables false
section
variable {cx : Ctx} {base : Nat} {hp : Array Obj} {μ : Mu} {h : H} {n : Nat}

theorem freezeCell_sound (s : St cx base hp μ h) {v v' : T} (hex : ∃ c, RelV hp μ v c) (hh : freezeCell h n v = some v') :
    (∀ c, RelV hp μ v c → RelV hp (cutMu n μ) v' c) ∧ v'.scalar = v.scalar := by
  have other : freeze h n 12 v = some v' → (∀ c, RelV hp μ v c → RelV hp (cutMu n μ) v' c) ∧ v'.scalar = v.scalar := fun hf =>
    let f := freeze_sound s 12 v v' hex hf
    ⟨f.rel, f.scalar⟩
  cases v with
  | undef =>
    have hh : some T.undef = some v' := hh
    simp only [Option.some.injEq] at hh; subst hh
    exact ⟨fun c hc => hc.cut .undef, rfl⟩
  | ptr b ep i j =>
    have hh : @Bool.rec (fun _ => Option T) (some (.ptr b ep i j)) none (Nat.ble n b) = some v' := hh
    cases hb : Nat.ble n b with
    | true => rw [hb] at hh; simp at hh
    | false =>
      rw [hb] at hh
      have hh : some (T.ptr b ep i j) = some v' := hh
      simp only [Option.some.injEq] at hh; subst hh
      have : b < n := by
        rcases Nat.lt_or_ge b n with x | x
        · exact x
        · rw [Nat.ble_eq_true_of_le x] at hb; simp at hb
      exact ⟨fun c hc => hc.cut (.ptr _ _ _ _ this), rfl⟩
  | map b =>
    have hh : @Bool.rec (fun _ => Option T) (some (.map b)) none (Nat.ble n b) = some v' := hh
    cases hb : Nat.ble n b with
    | true => rw [hb] at hh; simp at hh
    | false =>
      rw [hb] at hh
      have hh : some (T.map b) = some v' := hh
      simp only [Option.some.injEq] at hh; subst hh
      have : b < n := by
        rcases Nat.lt_or_ge b n with x | x
        · exact x
        · rw [Nat.ble_eq_true_of_le x] at hb; simp at hb
      exact ⟨fun c hc => hc.cut (.map _ this), rfl⟩
  | arr b ep o l full =>
    have hh : @Bool.rec (fun _ => Option T) (some (.arr b ep o l full)) (freeze h n 12 (.arr b ep o l full)) (Nat.ble n b) = some v' := hh
    cases hb : Nat.ble n b with
    | true => rw [hb] at hh; exact other hh
    | false =>
      rw [hb] at hh
      have hh : some (T.arr b ep o l full) = some v' := hh
      simp only [Option.some.injEq] at hh; subst hh
      have : b < n := by
        rcases Nat.lt_or_ge b n with x | x
        · exact x
        · rw [Nat.ble_eq_true_of_le x] at hb; simp at hb
      exact ⟨fun c hc => hc.cut (.arr _ _ _ _ _ this), rfl⟩
  | _ => exact other hh

theorem mapCell_sound (s : St cx base hp μ h) {vs r : List T} {cs : List Value} (hL : RelL hp μ vs cs) (hh : mapOpt (freezeCell h n) vs = some r) :
    RelL hp (cutMu n μ) r cs ∧ ∀ x ∈ r, ∃ y ∈ vs, x.scalar = y.scalar := by
  have h2 : All2 (fun v v' => (∀ c, RelV hp μ v c → RelV hp (cutMu n μ) v' c) ∧ v'.scalar = v.scalar) vs r := All2.map (fun x hx y hy => freezeCell_sound s (hL.mem hx) hy) hh
  refine ⟨⟨by rw [← h2.length]; exact hL.1, fun k v hk => ?_⟩, fun x hx => ?_⟩
  · obtain ⟨x, hx, hf⟩ := h2.get hk
    exact hf.1 _ (hL.2 k x hx)
  · obtain ⟨y, hy, hf⟩ := h2.mem hx
    exact ⟨y, hy, hf.2⟩

theorem freezeVal_sound (s : St cx base hp μ h) {v v' : T} {c : Value} (hc : RelV hp μ v c) (hh : freezeVal h n v = some v') : RelV hp (cutMu n μ) v' c := by
  cases v with
  | agg cs =>
    have hh : (bnd (mapOpt (freezeCell h n) cs) fun r => some (T.agg r)) = some v' := hh
    replace hh := bnd_eq_some.1 hh; obtain ⟨r, hr, hh⟩ := hh
    simp only [Option.some.injEq] at hh; subst hh
    obtain ⟨ca, rfl, hL, hsc⟩ := hc.inv_agg
    obtain ⟨h1, h2⟩ := mapCell_sound s hL hr
    exact RelV.aggOf h1 fun x hx => by obtain ⟨y, hy, he⟩ := h2 x hx; rw [he]; exact hsc y hy
  | _ => exact (freezeCell_sound s ⟨c, hc⟩ hh).1 c hc

theorem freezeTop_sound (s : St cx base hp μ h) {v v' : T} {c : Value} (hc : RelV hp μ v c) (hh : freezeTop h n v = some v') : RelV hp (cutMu n μ) v' c := by
  cases v with
  | tuple vs =>
    have hh : (bnd (mapOpt (freezeVal h n) vs) fun r => some (T.tuple r)) = some v' := hh
    replace hh := bnd_eq_some.1 hh; obtain ⟨r, hr, hh⟩ := hh
    simp only [Option.some.injEq] at hh; subst hh
    obtain ⟨ca, rfl, hL⟩ := hc.inv_tuple
    have h2 : All2 (fun v v' => ∀ c, RelV hp μ v c → RelV hp (cutMu n μ) v' c) vs r := All2.map (fun x hx y hy c hc => freezeVal_sound s hc hy) hr
    refine .tuple r ca (by rw [← h2.length]; simpa using hL.1.symm) fun k v hk => ?_
    obtain ⟨x, hx, hf⟩ := h2.get hk
    have := hf _ (hL.2 k x hx)
    simpa [Array.getD_eq_getD_getElem?, List.getD] using this
  | _ => exact freezeVal_sound s hc hh

theorem belowCell_low {v : T} {c : Value} (hc : RelV hp μ v c) (hb : belowCell n v = true) : Low n v := by
  cases v with
  | ptr b ep i j => exact .ptr _ _ _ _ (by have hb : Nat.blt b n = true := hb; rwa [Nat.blt_eq] at hb)
  | arr b ep o l full => exact .arr _ _ _ _ _ (by have hb : Nat.blt b n = true := hb; rwa [Nat.blt_eq] at hb)
  | map b => exact .map _ (by have hb : Nat.blt b n = true := hb; rwa [Nat.blt_eq] at hb)
  | tptr cs =>
    obtain ⟨_, _, _, _, _, _, _, _, _, hsh, _⟩ := hc.inv_tptr
    exact .tptr _ fun v hv => (hsh v hv).2.low n
  | tree es full =>
    refine .tree _ _ fun v hv => ?_
    cases es with
    | nil => simp [flat] at hv
    | cons x es => obtain ⟨_, _, _, _, _, _, _, _, _, _, _, _, _, _, hsh, _⟩ := hc.inv_tree; exact (hsh v hv).2.low n
  | undef => simp [belowCell] at hb
  | func => simp [belowCell] at hb
  | iface => simp [belowCell] at hb
  | iter => simp [belowCell] at hb
  | agg => simp [belowCell] at hb
  | tuple => simp [belowCell] at hb
  | _ => constructor

theorem below_low {v : T} (hb : below n v = true) (hc : ∀ x ∈ v.cells, ∃ c, RelV hp μ x c) : ∀ x ∈ v.cells, Low n x := by
  cases v with
  | agg cs =>
    intro x hx
    obtain ⟨c, hc⟩ := hc x hx
    exact belowCell_low hc (allB_all (show allB (belowCell n) cs = true from hb) x hx)
  | func f cs =>
    intro x hx
    obtain ⟨c, hc⟩ := hc x hx
    simp [T.cells] at hx; subst hx
    obtain ⟨ca, rfl, hL⟩ := hc.inv_func
    exact .func _ _ fun y hy => by obtain ⟨d, hd⟩ := hL.mem hy; exact belowCell_low hd (allB_all (show allB (belowCell n) cs = true from hb) y hy)
  | tuple cs =>
    intro x hx
    obtain ⟨c, hc⟩ := hc x hx
    simp [T.cells] at hx; subst hx
    obtain ⟨ca, rfl, hL⟩ := hc.inv_tuple
    exact .tuple _ fun y hy => by obtain ⟨d, hd⟩ := hL.mem hy; exact belowCell_low hd (allB_all (show allB (belowCell n) cs = true from hb) y hy)
  | _ =>
    intro x hx
    obtain ⟨c, hc⟩ := hc x hx
    simp [T.cells] at hx; subst hx
    exact belowCell_low hc hb

theorem boxesBelow_all {k : Nat} {l : List Box} (hh : boxesBelow n k l = true) : ∀ i x, i < k → l[i]? = some x → ∀ v ∈ x.elems, below n v = true := by
  induction k generalizing l with
  | zero => intro i x hi; omega
  | succ k ih =>
    intro i x hi hx
    cases l with
    | nil => simp at hx
    | cons y r =>
      have hh : @Bool.rec (fun _ => Bool) false (boxesBelow n k r) (allB (below n) y.elems) = true := hh
      cases hy : allB (below n) y.elems with
      | false => rw [hy] at hh; simp at hh
      | true =>
        rw [hy] at hh
        cases i with
        | zero => simp at hx; subst hx; exact allB_all hy
        | succ i => exact ih hh i x (by omega) (by simpa using hx)

/-- The state with the boxes from n on forgotten. -/
theorem St.cut (s : St cx base hp μ h) (hn : n ≤ h.size) {low : Nat} (hl : ∀ b L x, b < n → μ b = some L → h.get b = some x → ∀ v ∈ flat x.elems, Low n v) :
    St cx base hp (cutMu n μ) ⟨n, low, h.boxes.drop (h.size - n)⟩ := by
  have hget : ∀ b, b < n → (⟨n, low, h.boxes.drop (h.size - n)⟩ : H).get b = h.get b := by
    intro b hb
    rw [H.get_eq, H.get_eq]
    have h1 : b < h.size := by omega
    simp only [hb, h1, if_true, List.getElem?_drop]
    congr 1; omega
  refine ⟨?_, s.fit, ?_, ?_, ?_, fun b L hb => s.apart b L (cutMu_some hb).2, s.resLt, ?_⟩
  · simp only [List.length_drop, s.wf]; omega
  · intro b L hb
    obtain ⟨q1, q2⟩ := cutMu_some hb
    obtain ⟨x, hx, hok⟩ := s.box b L q2
    exact ⟨x, by rw [hget b q1]; exact hx, hok.cut (hl b L x q1 q2 hx)⟩
  · intro b b' L L' h1 h2 he
    exact s.inj b b' L L' (cutMu_some h1).2 (cutMu_some h2).2 he
  · intro b L hb; exact s.low b L (cutMu_some hb).2
  · intro g cs hg
    have := s.glob g cs hg
    refine this.cut ?_
    obtain ⟨_, _, _, _, _, _, _, _, _, hsh, _⟩ := this.inv_tptr
    exact .tptr _ fun v hv => (hsh v hv).2.low n

theorem St.relow (s : St cx base hp μ h) (low : Nat) : St cx base hp μ ⟨h.size, low, h.boxes⟩ := by
  refine ⟨s.wf, s.fit, fun b L hb => ?_, s.inj, s.low, s.apart, s.resLt, s.glob⟩
  obtain ⟨x, hx, hok⟩ := s.box b L hb
  exact ⟨x, by rw [H.get_eq] at hx ⊢; exact hx, hok⟩

/-- What stands behind the end of a call that began at the heap h0. -/
def Left (cx : Ctx) (base : Nat) (w w' : World) (μ : Mu) (h0 : H) (r : T) (h' : H) (c : Value) : Prop :=
  ∃ μ', RelV w'.heap μ' r c ∧ St cx base w'.heap μ' h' ∧ ExtW w μ w' μ' ∧ Dom μ μ' h0.size h'.size

theorem H.get_relow (h : H) (low b : Nat) : (⟨h.size, low, h.boxes⟩ : H).get b = h.get b := by rw [H.get_eq, H.get_eq]

theorem grow_relow {n low0 low : Nat} {boxes : List Box} (g : Grow ⟨n, n, boxes⟩ h) (hl : low ≤ low0) (hk : ∀ b, b < n → b < low → b < h.low) : Grow ⟨n, low0, boxes⟩ ⟨h.size, low, h.boxes⟩ := by
  have e0 : ∀ b, (⟨n, low0, boxes⟩ : H).get b = (⟨n, n, boxes⟩ : H).get b := fun b => by rw [H.get_eq, H.get_eq]
  refine ⟨g.wf, g.size, hl, fun b hb hlb => ?_, fun b x hx => ?_⟩
  · rw [H.get_relow, e0]
    exact g.keep b hb (hk b hb hlb)
  · rw [e0] at hx
    obtain ⟨x', h1, h2⟩ := g.ver b x hx
    exact ⟨x', by rw [H.get_relow]; exact h1, h2⟩

theorem leaveKeep_eq {low0 : Nat} {r r' : T} {h' : H} (hh : leaveKeep low0 r h = some (r', h')) : r' = r ∧ h' = ⟨h.size, if h.low < low0 then h.low else low0, h.boxes⟩ := by
  obtain ⟨size, low, boxes⟩ := h
  have hh : @Bool.rec (fun _ => Option (T × H)) (some (r, ⟨size, low0, boxes⟩)) (some (r, ⟨size, low, boxes⟩)) (Nat.blt low low0) = some (r', h') := hh
  cases hb : Nat.blt low low0 with
  | true =>
    rw [hb] at hh
    simp only [Option.some.injEq, Prod.mk.injEq] at hh
    have : low < low0 := by rwa [Nat.blt_eq] at hb
    exact ⟨hh.1.symm, by rw [← hh.2]; simp [this]⟩
  | false =>
    rw [hb] at hh
    simp only [Option.some.injEq, Prod.mk.injEq] at hh
    have : ¬ low < low0 := fun k => by rw [← Nat.blt_eq, hb] at k; simp at k
    exact ⟨hh.1.symm, by rw [← hh.2]; simp [this]⟩

variable {w w' : World} {μ0 : Mu} {low0 : Nat} {boxes0 : List Box}

theorem keep_sound {r r' : T} {c : Value} {h' : H} (s : St cx base w'.heap μ h) (g : Grow ⟨n, n, boxes0⟩ h) (x : ExtW w μ0 w' μ) (d : Dom μ0 μ n h.size) (hc : RelV w'.heap μ r c)
    (hh : leaveKeep low0 r h = some (r', h')) : Left cx base w w' μ0 ⟨n, low0, boxes0⟩ r' h' c ∧ Grow ⟨n, low0, boxes0⟩ h' := by
  obtain ⟨rfl, rfl⟩ := leaveKeep_eq hh
  exact ⟨⟨μ, hc, s.relow _, x, d⟩, grow_relow g (by split <;> omega) (fun b _ hb => by split at hb <;> omega)⟩

theorem leave_sound {keep : Bool} {r r' : T} {c : Value} {h' : H} (s0 : St cx base w.heap μ0 ⟨n, low0, boxes0⟩) (s : St cx base w'.heap μ h) (g : Grow ⟨n, n, boxes0⟩ h) (x : ExtW w μ0 w' μ) (d : Dom μ0 μ n h.size)
    (hc : RelV w'.heap μ r c) (hh : leave keep n low0 r h = some (r', h')) : Left cx base w w' μ0 ⟨n, low0, boxes0⟩ r' h' c ∧ Grow ⟨n, low0, boxes0⟩ h' := by
  cases keep with
  | true => exact keep_sound s g x d hc hh
  | false =>
    have hh : @Option.rec T (fun _ => Option (T × H)) (leaveKeep low0 r h) (fun r' => leaveCut n low0 r r' h) (freezeTop h n r) = some (r', h') := hh
    cases hf : freezeTop h n r with
    | none => rw [hf] at hh; exact keep_sound s g x d hc hh
    | some q =>
      rw [hf] at hh
      have hq := freezeTop_sound s hc hf
      have hn : n ≤ h.size := g.size
      have hd0 : ∀ b L, μ0 b = some L → b < n := fun b L hb => s0.get_lt hb
      -- the cut itself
      have cut : ∀ low', low' ≤ low0 → (∀ b, b < n → b < low' → b < h.low) → (∀ b L z, b < n → μ b = some L → h.get b = some z → ∀ v ∈ flat z.elems, Low n v) →
          Left cx base w w' μ0 ⟨n, low0, boxes0⟩ q ⟨n, low', h.boxes.drop (h.size - n)⟩ c ∧ Grow ⟨n, low0, boxes0⟩ ⟨n, low', h.boxes.drop (h.size - n)⟩ := by
        intro low' hlow hlk hl
        have hcut := St.cut (low := low') s hn hl
        refine ⟨⟨cutMu n μ, hq, hcut, ⟨⟨x.ext.size, fun i hi hni => ?_, fun b L hb => ?_, x.ext.res, x.ext.kept⟩, x.os, x.tape, x.output⟩, Nat.le_refl _, fun b hb => ?_, fun b k1 k2 => absurd k1 (by show ¬ n ≤ b; have k2 : b < n := k2; omega)⟩, ?_⟩
        · obtain ⟨e1, e2⟩ := x.ext.old i hi hni
          exact ⟨e1, not_cutMu e2⟩
        · rw [cutMu_lt (hd0 b L hb)]; exact x.ext.mu b L hb
        · left
          obtain ⟨L, hL⟩ := Option.ne_none_iff_exists'.1 hb
          obtain ⟨q1, q2⟩ := cutMu_some hL
          rcases d.2.1 b (by rw [q2]; simp) with k | k
          · exact k
          · omega
        · have g' := grow_relow (low := low') g hlow hlk
          have hget : ∀ b, b < n → (⟨n, low', h.boxes.drop (h.size - n)⟩ : H).get b = h.get b := by
            intro b hb
            rw [H.get_eq, H.get_eq]
            have h1 : b < h.size := by omega
            simp only [hb, h1, if_true, List.getElem?_drop]
            congr 1; omega
          refine ⟨hcut.wf, Nat.le_refl _, g'.low, fun b hb hlb => ?_, fun b y hy => ?_⟩
          · rw [hget b hb]
            have := g'.keep b hb hlb
            rwa [H.get_relow] at this
          · rw [hget b (H.get_lt hy)]
            have := g'.ver b y hy
            simpa only [H.get_relow] using this
      -- boxes that are as they were
      have same : ∀ b L z, b < n → b < h.low → μ b = some L → h.get b = some z → ∀ v ∈ flat z.elems, Low n v := by
        intro b L z hb hlow hL hz
        have hk := g.keep b hb hlow
        rw [hz] at hk
        rcases d.2.1 b (by rw [hL]; simp) with k | k
        · obtain ⟨L0, hL0⟩ := Option.ne_none_iff_exists'.1 k
          obtain ⟨z0, hz0, hok⟩ := s0.box b L0 hL0
          have e0 : (⟨n, low0, boxes0⟩ : H).get b = (⟨n, n, boxes0⟩ : H).get b := by rw [H.get_eq, H.get_eq]
          rw [e0, ← hk] at hz0
          simp only [Option.some.injEq] at hz0; subst hz0
          exact hok.low hd0
        · omega
      obtain ⟨size, low, boxes⟩ := h
      have hh : (bnd (dropN (Nat.sub size n) boxes) fun old =>
          @Bool.rec (fun _ => Option (T × H))
            (@Bool.rec (fun _ => Option (T × H)) (leaveKeep low0 r ⟨size, low, boxes⟩)
              (@Bool.rec (fun _ => Option (T × H)) (some (q, ⟨n, low0, old⟩)) (some (q, ⟨n, low, old⟩)) (Nat.blt low low0)) (boxesBelow n (Nat.sub n low) old))
            (some (q, ⟨n, low0, old⟩)) (Nat.ble n low)) = some (r', h') := hh
      replace hh := bnd_eq_some.1 hh; obtain ⟨old, hold, hh⟩ := hh
      rw [dropN_eq] at hold
      have hold : old = boxes.drop (size - n) := by
        split at hold
        · simp only [Option.some.injEq] at hold; exact hold.symm
        · simp at hold
      have hlown : low0 ≤ n ∨ n < low0 := by omega
      cases hb1 : Nat.ble n low with
      | true =>
        rw [hb1] at hh
        simp only [Option.some.injEq, Prod.mk.injEq] at hh
        obtain ⟨rfl, rfl⟩ := hh
        have hnl : n ≤ low := Nat.le_of_ble_eq_true hb1
        rw [hold]
        exact cut _ (Nat.le_refl _) (fun b hb _ => by show b < low; omega) fun b L z hb => same b L z hb (by show b < low; omega)
      | false =>
        rw [hb1] at hh
        have hnl : low < n := by
          rcases Nat.lt_or_ge low n with k | k
          · exact k
          · rw [Nat.ble_eq_true_of_le k] at hb1; simp at hb1
        cases hb2 : boxesBelow n (Nat.sub n low) old with
        | false => rw [hb2] at hh; exact keep_sound s g x d hc hh
        | true =>
          rw [hb2] at hh
          have all : ∀ b L z, b < n → μ b = some L → (⟨size, low, boxes⟩ : H).get b = some z → ∀ v ∈ flat z.elems, Low n v := by
            intro b L z hb hL hz
            by_cases hbl : b < low
            · exact same b L z hb hbl hL hz
            · obtain ⟨z', hz', hok⟩ := s.box b L hL
              rw [hz] at hz'
              simp only [Option.some.injEq] at hz'; subst hz'
              have hidx : old[n - 1 - b]? = some z := by
                rw [H.get_eq] at hz
                have hn : n ≤ size := hn
                have hbs : b < size := by omega
                simp only [hbs, if_true] at hz
                rw [hold, List.getElem?_drop, ← hz]
                congr 1; omega
              have hbel := boxesBelow_all hb2 (n - 1 - b) z (by show _ < n - low; omega) hidx
              intro v hv
              obtain ⟨el, hel, hve⟩ := List.mem_flatMap.1 hv
              cases hi : z.it with
              | true =>
                obtain ⟨_, ⟨st, pos, he, _⟩ | ⟨es, m1, m2, m3⟩ | ⟨mb, m, pos, since, c0, h1, h2, h3, h4⟩⟩ := hok.iter hi
                · rw [he] at hel
                  simp at hel
                  rcases hel with rfl | rfl <;> (simp [T.cells] at hve; subst hve; constructor)
                rotate_left
                · have hb3 := hbel _ hel
                  rw [h1] at hel
                  simp at hel
                  rcases hel with rfl | rfl | rfl | rfl
                  · simp [T.cells] at hve; subst hve
                    exact belowCell_low h2 hb3
                  all_goals (simp [T.cells] at hve; subst hve; constructor)
                · obtain ⟨j, hj⟩ := List.mem_iff_getElem?.1 hel
                  obtain ⟨k, u, me, rfl, g2, g3, g4, g5⟩ := m3 j el hj
                  have hb3 := hbel _ hel
                  have hb3 : allB (belowCell n) [k, u] = true := hb3
                  simp [T.cells] at hve
                  subst hve
                  refine .tuple _ fun y hy => ?_
                  have hby := allB_all hb3 y hy
                  simp at hy
                  rcases hy with rfl | rfl
                  · exact belowCell_low g4 hby
                  · exact belowCell_low g5 hby
              | false =>
                obtain ⟨arr, t, h1, h2, h3⟩ := (hok.plain hi).row
                exact below_low (hbel el hel) (fun y hy => h3.mem (List.mem_flatMap.2 ⟨el, hel, hy⟩)) v hve
          have : r' = q ∧ h' = ⟨n, if low < low0 then low else low0, old⟩ := by
            cases hb3 : Nat.blt low low0 with
            | true =>
              rw [hb3] at hh
              simp only [Option.some.injEq, Prod.mk.injEq] at hh
              have : low < low0 := by rwa [Nat.blt_eq] at hb3
              exact ⟨hh.1.symm, by rw [← hh.2]; simp [this]⟩
            | false =>
              rw [hb3] at hh
              simp only [Option.some.injEq, Prod.mk.injEq] at hh
              have : ¬ low < low0 := fun k => by rw [← Nat.blt_eq, hb3] at k; simp at k
              exact ⟨hh.1.symm, by rw [← hh.2]; simp [this]⟩
          obtain ⟨rfl, rfl⟩ := this
          rw [hold]
          exact cut _ (by split <;> omega) (fun b _ hb => by show b < low; split at hb <;> omega) all
end
end Go.TI

/- Slots: what is set is read back; one operation of a region. -/
namespace Go.TI
set_option linter.unusedVariables false

theorem look_cons (k : Nat) (v : T) (r : Vars) (s : Nat) : look (.cons k v r) s = if k = s then some v else look r s := by
  show @Bool.rec (fun _ => Option T) (look r s) (some v) (Nat.beq k s) = _
  cases hb : Nat.beq k s with
  | true => have := Nat.eq_of_beq_eq_true hb; simp [this]
  | false => have := Nat.ne_of_beq_eq_false hb; simp [this]

theorem setVar_look {l l' : Vars} {s : Nat} {v : T} (hh : setVar l s v = some l') (s' : Nat) : look l' s' = if s' = s then some v else look l s' := by
  induction l generalizing l' with
  | nil =>
    have hh : some (Vars.cons s v .nil) = some l' := hh
    simp only [Option.some.injEq] at hh; subst hh
    rw [look_cons]
    by_cases h : s = s'
    · simp [h]
    · simp [h, Ne.symm h]
  | cons k u r ih =>
    have hh : @Bool.rec (fun _ => Option Vars) (bnd (setVar r s v) fun t => some (.cons k u t)) (some (.cons k v r)) (Nat.beq k s) = some l' := hh
    cases hb : Nat.beq k s with
    | true =>
      rw [hb] at hh
      have hk := Nat.eq_of_beq_eq_true hb
      have hh : some (Vars.cons k v r) = some l' := hh
      simp only [Option.some.injEq] at hh; subst hh
      rw [look_cons, look_cons, hk]
      by_cases h : s = s'
      · simp [h]
      · simp [h, Ne.symm h]
    | false =>
      rw [hb] at hh
      have hk := Nat.ne_of_beq_eq_false hb
      have hh : (bnd (setVar r s v) fun t => some (Vars.cons k u t)) = some l' := hh
      obtain ⟨t, ht, hh⟩ := bnd_eq_some.1 hh
      simp only [Option.some.injEq] at hh; subst hh
      rw [look_cons, look_cons, ih ht]
      by_cases h : k = s'
      · have : s' ≠ s := fun e => hk (h.trans e)
        simp [h, this]
      · simp [h]

theorem Env.get_set {mask : Nat} {e e' : Env} {s : Nat} {v : T} (hh : e.set mask s v = some e') (s' : Nat) : e'.get mask s' = if s' = s then some v else e.get mask s' := by
  obtain ⟨vars, tmps⟩ := e
  have hh : @Bool.rec (fun _ => Option Env) (some ⟨vars, .cons s v tmps⟩) (bnd (setVar vars s v) fun l => some ⟨l, tmps⟩) (lasts mask s) = some e' := hh
  have get : ∀ (a b : Vars), (⟨a, b⟩ : Env).get mask s' = if lasts mask s' = true then look a s' else look b s' := by
    intro a b
    show @Bool.rec (fun _ => Option T) (look b s') (look a s') (lasts mask s') = _
    cases lasts mask s' <;> rfl
  cases hl : lasts mask s with
  | false =>
    rw [hl] at hh
    have hh : some (⟨vars, .cons s v tmps⟩ : Env) = some e' := hh
    simp only [Option.some.injEq] at hh; subst hh
    rw [get, get, look_cons]
    by_cases h : s' = s
    · subst h; simp [hl]
    · simp [h, Ne.symm h]
  | true =>
    rw [hl] at hh
    have hh : (bnd (setVar vars s v) fun l => some (⟨l, tmps⟩ : Env)) = some e' := hh
    obtain ⟨l, hl', hh⟩ := bnd_eq_some.1 hh
    simp only [Option.some.injEq] at hh; subst hh
    rw [get, get, setVar_look hl']
    by_cases h : s' = s
    · subst h; simp [hl]
    · simp [h]

/-- A slot is set, in the frame as in the interpreter. -/
theorem RelE.put {hp : Array Obj} {μ : Mu} {mask : Nat} {e e' : Env} {a : Act} {d : Option Tmp} {v : T} {c : Value} (r : RelE hp μ mask e a.tmps) (hv : RelV hp μ v c) (hd : ∀ s, d = some s → s < a.tmps.size)
    (hh : e.dst mask d v = some e') : RelE hp μ mask e' (a.put d c).tmps := by
  cases d with
  | none =>
    have hh : some e = some e' := hh
    simp only [Option.some.injEq] at hh; subst hh
    exact r
  | some s =>
    have hh : e.set mask s v = some e' := hh
    intro s' v' hs
    rw [Env.get_set hh] at hs
    have hlt := hd s rfl
    by_cases h : s' = s
    · subst h
      simp only [if_true, Option.some.injEq] at hs; subst hs
      simpa [Act.put, Array.getD_eq_getD_getElem?, hlt] using hv
    · simp only [h, if_false] at hs
      have := r s' v' hs
      simpa [Act.put, Array.getD_eq_getD_getElem?, Array.getElem?_setIfInBounds_ne (Ne.symm h)] using this

theorem Act.put_size (a : Act) (d : Option Tmp) (c : Value) : (a.put d c).tmps.size = a.tmps.size := by cases d <;> simp [Act.put]
theorem Act.put_defs (a : Act) (d : Option Tmp) (c : Value) : (a.put d c).defers = a.defers := by cases d <;> rfl

/-- The guard, in the frame as in the interpreter. -/
theorem want_sound {hp : Array Obj} {μ : Mu} {mask : Nat} {e : Env} {a : Act} {ops : Array Oper} {o : Oper} {b : Bool} (r : RelE hp μ mask e a.tmps) (hd : ∀ (j : Nat) (p : Oper) s, ops[j]? = some p → p.dst = some s → s < a.tmps.size)
    (hh : wantT ops mask e o.guard = some b) : Region.wanted o (yielded ops a.tmps) = b := by
  unfold Region.wanted
  cases hg : o.guard with
  | none =>
    rw [hg] at hh
    have hh : some true = some b := hh
    simpa using hh
  | some p =>
    obtain ⟨j, want⟩ := p
    rw [hg] at hh
    have hh : (bnd (bnd (bnd (nthD ops.toList j) fun o => o.dst) fun d => e.get mask d) fun v =>
      match v with
      | .bool b => some (@Bool.rec (fun _ => Bool) (@Bool.rec (fun _ => Bool) true false want) want b)
      | _ => some false) = some b := hh
    replace hh := bnd_eq_some.1 hh; obtain ⟨v, hv, hh⟩ := hh
    replace hv := bnd_eq_some.1 hv; obtain ⟨d, hd', hv⟩ := hv
    replace hd' := bnd_eq_some.1 hd'; obtain ⟨p, hp', hpd⟩ := hd'
    rw [nthD_eq] at hp'
    have hp2 : ops[j]? = some p := by simpa using hp'
    have hlt := hd j p d hp2 hpd
    have hrel := r d v hv
    have hy : ((ops[j]?).bind (·.dst)).bind (a.tmps[·]?) = some (a.tmps.getD d Go.undef) := by
      simp [hp2, hpd, Array.getD_eq_getD_getElem?, hlt]
    simp only [yielded, hy]
    generalize a.tmps.getD d Go.undef = c at hrel
    cases hrel <;> simp only [Option.some.injEq] at hh <;> first
      | (subst hh; rfl)
      | skip
    rename_i b'
    subst hh
    cases b' <;> cases want <;> rfl
end Go.TI

/- Regions in their order, code, calls. -/
namespace Go.TI
set_option linter.unusedVariables false

/-- Behind an operation or a call; and the interpreter's heap has grown. -/
def AfterG (cx : Ctx) (base : Nat) (w : World) (μ : Mu) (h : H) (v : T) (h' : H) (c : Value) (w' : World) : Prop := After cx base w μ h.size v h' c w' ∧ Grow h h'

/-- The interpreter's calls stand for the program's. -/
def CallOk (P : Program) (cx : Ctx) (cf : CallF) : Prop :=
  ∀ f args h r h', cf f args h = some (r, h') → ∀ base w μ (cargs : Array Value), St cx base w.heap μ h → RelL w.heap μ args cargs.toList → Ran P (AfterG cx base w μ h r h') ((callFunc f cargs).run P w)

/-- The interpreter's slots and heap stand for a frame and a world that came from w0. -/
def Here (cx : Ctx) (base mask m : Nat) (w0 : World) (μ0 : Mu) (h0 : H) (e : Env) (h : H) (a : Act) (w : World) : Prop :=
  ∃ μ, St cx base w.heap μ h ∧ RelE w.heap μ mask e a.tmps ∧ ExtW w0 μ0 w μ ∧ Dom μ0 μ h0.size h.size ∧ Grow h0 h ∧ a.tmps.size = m ∧ a.defers = []

section
variable {P : Program} {cx : Ctx} {cf : CallF} {base mask m : Nat} {w0 w : World} {μ0 : Mu} {h0 h h' : H} {e e' : Env} {a : Act} {ops : Array Oper} {Q : Exit → Act → World → Prop}

/-- Every slot that a region sets is there. -/
def DstOk (m : Nat) (ops : Array Oper) : Prop := ∀ (j : Nat) (p : Oper) s, ops[j]? = some p → p.dst = some s → s < m

theorem Here.after (H : Here cx base mask m w0 μ0 h0 e h a w) {d : Option Tmp} (hd : ∀ s, d = some s → s < m) {v : T} (hset : e.dst mask d v = some e')
    {R : Result Next} (hr : ∀ base μ, St cx base w.heap μ h → RelE w.heap μ mask e a.tmps → Ran P (AfterG cx base w μ h v h') R) : Ran P (fun c w' => Here cx base mask m w0 μ0 h0 e' h' (a.put d c) w') R := by
  obtain ⟨μ, s, r, x, dm, g, hm, hdf⟩ := H
  refine (hr base μ s r).mono fun c w' hc => ?_
  obtain ⟨⟨μ', k1, k2, k3, k4⟩, k5⟩ := hc
  refine ⟨μ', k2, ?_, x.trans k3, dm.trans (hp := w.heap) k4 k3.ext, g.trans k5, by rw [Act.put_size]; exact hm, by rw [Act.put_defs]; exact hdf⟩
  exact RelE.put (r.ext k3.ext) k1 (fun s hs => by rw [hm]; exact hd s hs) hset

theorem step_sound (tys : TysOk P cx) (ck : CallOk P cx cf) {i : Nat} {o : Oper} (hi : ops[i]? = some o) (hd : DstOk m ops) (hh : stepOp cx cf mask ops e h o = some (e', h'))
    (H : Here cx base mask m w0 μ0 h0 e h a w) {K : Act → World → Prop} (hK : ∀ a' w', Here cx base mask m w0 μ0 h0 e' h' a' w' → K a' w') : wpOp P ops Q i K a w := by
  have H' := H
  obtain ⟨μ, s, r, x, dm, g, hm, hdf⟩ := H'
  unfold wpOp
  simp only [hi]
  replace hh := bnd_eq_some.1 hh; obtain ⟨want, hw, hh⟩ := hh
  have hwant := want_sound r (fun j p s hj hs => by rw [hm]; exact hd j p s hj hs) hw
  cases want with
  | false =>
    have hh : (bnd (e.dst mask o.dst .undef) fun e' => some (e', h)) = some (e', h') := hh
    replace hh := bnd_eq_some.1 hh; obtain ⟨e1, he1, hh⟩ := hh
    simp only [Option.some.injEq, Prod.mk.injEq] at hh
    obtain ⟨rfl, rfl⟩ := hh
    simp only [hwant, Bool.false_eq_true, if_false]
    refine hK _ _ ⟨μ, s, RelE.put r .undef (fun s hs => by rw [hm]; exact hd i o s hi hs) he1, x, dm, g, by rw [Act.put_size]; exact hm, by rw [Act.put_defs]; exact hdf⟩
  | true =>
    simp only [hwant, if_true]
    left
    have hh : (bnd (opH o.op cx mask e h) fun d => @Did.rec (fun _ => Option (Env × TI.H))
      (fun v h' => bnd (e.dst mask o.dst v) fun e' => some (e', h'))
      (fun f args => bnd (cf f args h) fun r => two r fun v h' => bnd (e.dst mask o.dst v) fun e' => some (e', h')) d) = some (e', h') := hh
    replace hh := bnd_eq_some.1 hh; obtain ⟨d, hop, hh⟩ := hh
    cases d with
    | val v h1 =>
      have hh : (bnd (e.dst mask o.dst v) fun e' => some (e', h1)) = some (e', h') := hh
      replace hh := bnd_eq_some.1 hh; obtain ⟨e1, he1, hh⟩ := hh
      simp only [Option.some.injEq, Prod.mk.injEq] at hh
      obtain ⟨rfl, rfl⟩ := hh
      refine Ran.wp (H.after (fun s hs => hd i o s hi hs) he1 (h' := h1) fun base μ s r => ?_) (fun c w' hc => hK _ _ hc)
      exact ((opH_val tys s r hop).ran).mono fun c w' hc => ⟨hc, mv_opH s.wf v h1 hop⟩
    | «call» f args =>
      have hh : (bnd (cf f args h) fun r => two r fun v h' => bnd (e.dst mask o.dst v) fun e' => some (e', h')) = some (e', h') := hh
      replace hh := bnd_eq_some.1 hh; obtain ⟨⟨v, h1⟩, hcall, hh⟩ := hh
      simp only [two_mk] at hh
      replace hh := bnd_eq_some.1 hh; obtain ⟨e1, he1, hh⟩ := hh
      simp only [Option.some.injEq, Prod.mk.injEq] at hh
      obtain ⟨rfl, rfl⟩ := hh
      refine Ran.wp (H.after (fun s hs => hd i o s hi hs) he1 (h' := h1) fun base μ s r => ?_) (fun c w' hc => hK _ _ hc)
      obtain ⟨_, cargs, hL, hrun⟩ := opH_call (P := P) s r hop
      rw [hrun]
      exact ck f args h v h1 hcall base w μ cargs s hL

theorem runOps_sound (tys : TysOk P cx) (ck : CallOk P cx cf) (hd : DstOk m ops) : ∀ (l : List Oper) (k : Nat) (e : Env) (h : H) (a : Act) (w : World), (∀ j, l[j]? = ops[k + j]?) →
    runOps cx cf mask ops l e h = some (e', h') → Here cx base mask m w0 μ0 h0 e h a w → (∀ a' w', Here cx base mask m w0 μ0 h0 e' h' a' w' → Q .normal a' w') → wpOps P ops Q (List.range' k l.length) a w := by
  intro l
  induction l with
  | nil =>
    intro k e h a w _ hh H hQ
    have hh : some (e, h) = some (e', h') := hh
    simp only [Option.some.injEq, Prod.mk.injEq] at hh
    obtain ⟨rfl, rfl⟩ := hh
    exact hQ a w H
  | cons o l ih =>
    intro k e h a w hl hh H hQ
    have hh : (bnd (stepOp cx cf mask ops e h o) fun p => two p fun e' h' => runOps cx cf mask ops l e' h') = some (e', h') := hh
    replace hh := bnd_eq_some.1 hh; obtain ⟨⟨e1, h1⟩, hs, hh⟩ := hh
    simp only [two_mk] at hh
    simp only [List.length_cons, List.range'_succ]
    rw [wpOps_cons]
    have hk : ops[k]? = some o := by have := hl 0; simpa using this.symm
    refine step_sound tys ck hk hd hs H fun a' w' H' => ih (k + 1) e1 h1 a' w' (fun j => ?_) hh H' hQ
    have := hl (j + 1)
    simp only [List.getElem?_cons_succ] at this
    rw [this]; congr 1; omega

/-! ### code -/

def dstB (m : Nat) (ops : Array Oper) : Bool := ops.toList.all fun o => match o.dst with | some s => Nat.blt s m | none => true

theorem dstB_ok (hb : dstB m ops = true) : DstOk m ops := by
  intro j p s hj hs
  unfold dstB at hb
  rw [List.all_eq_true] at hb
  have := hb p (by simpa using Array.mem_of_getElem? hj)
  rw [hs] at this
  simpa [Nat.blt_eq] using this

/-- What is asked of a function's code, once for all its calls. -/
def okCode (m : Nat) (drawB : Array Oper → Bool) : Code → Bool
  | .region _ ops draw => dstB m ops && (!draw || drawB ops)
  | .seq a b => okCode m drawB a && okCode m drawB b
  | .cond _ a b => okCode m drawB a && okCode m drawB b
  | .block _ b => okCode m drawB b
  | .loop b => okCode m drawB b
  | _ => true

def exOf : Ex → Exit
  | .normal => .normal
  | .exit i => .exit i
  | .ret => .ret

/-- Regions that draw their order. -/
def DrawOk (P : Program) (cx : Ctx) (cf : CallF) (drawB : Array Oper → Bool) : Prop :=
  ∀ (base mask m : Nat) (w0 : World) (μ0 : Mu) (h0 : H) (ops : Array Oper) (e e' : Env) (h h' : H) (a : Act) (w : World) (Q : Exit → Act → World → Prop) (id : Nat), drawB ops = true → DstOk m ops →
    runDraw cx cf mask ops ops.toList 0 ⟨[], []⟩ e h = some (e', h') → Here cx base mask m w0 μ0 h0 e h a w → (∀ a' w', Here cx base mask m w0 μ0 h0 e' h' a' w' → Q .normal a' w') → (Code.region id ops true).wp P Q a w

theorem Here.drop (H : Here cx base mask m w0 μ0 h0 e h a w) : Here cx base mask m w0 μ0 h0 ⟨e.vars, .nil⟩ h a w := by
  obtain ⟨μ, s, r, x, dm, g, hm, hdf⟩ := H
  refine ⟨μ, s, fun s' v hv => r s' v ?_, x, dm, g, hm, hdf⟩
  obtain ⟨vars, tmps⟩ := e
  have hv : @Bool.rec (fun _ => Option T) (look .nil s') (look vars s') (lasts mask s') = some v := hv
  show @Bool.rec (fun _ => Option T) (look tmps s') (look vars s') (lasts mask s') = some v
  cases hl : lasts mask s' with
  | true => rw [hl] at hv; exact hv
  | false => rw [hl] at hv; simp [look] at hv

/-- A loop's rounds to come. -/
def wpL (P : Program) (c : Code) (Q : Exit → Act → World → Prop) (a : Act) (w : World) : Prop :=
  ∀ (b : Frame) (k : List Item) (cs : List Frame), ∃ e a' w', Q e a' w' ∧ Arrives P (lone (b.at a (.code c :: .inLoop c :: k)) cs w) b k cs e a' w'

theorem wpL_round {c : Code} (h : c.wp P (Exit.then (wpL P c Q) Q) a w) : wpL P c Q a w := by
  intro b k cs
  obtain ⟨e, a₁, w₁, hq, harr⟩ := h b (.inLoop c :: k) cs
  cases e with
  | normal =>
    obtain ⟨e₂, a₂, w₂, hq₂, harr₂⟩ := hq b k cs
    exact ⟨e₂, a₂, w₂, hq₂, .of_steps (Steps.trans harr (.one step_inLoop)) harr₂⟩
  | exit id => exact ⟨_, a₁, w₁, hq, .pass (x := .inLoop c) rfl (fun _ _ => .inl (by simp)) harr⟩
  | goto l => exact ⟨_, a₁, w₁, hq, .pass (x := .inLoop c) rfl (fun _ _ => .inl (by simp)) harr⟩
  | ret => exact ⟨_, a₁, w₁, hq, .pass (x := .inLoop c) rfl (fun _ _ => .inl (by simp)) harr⟩
  | panic ch => exact ⟨_, a₁, w₁, hq, .pass (x := .inLoop c) rfl (fun _ _ => .inl (by simp)) harr⟩
  | outgrown => exact ⟨_, a₁, w₁, hq, .pass (x := .inLoop c) rfl (fun _ _ => .inl (by simp)) harr⟩

theorem wp_of_wpL {c : Code} (h : wpL P c Q a w) : (Code.loop c).wp P Q a w := by
  intro b k cs
  obtain ⟨e, a', w', hq, harr⟩ := h b k cs
  exact ⟨e, a', w', hq, .of_steps (.one step_loop) harr⟩

/-- What code comes to. -/
def Runs (P : Program) (cx : Ctx) (base mask m : Nat) (w0 : World) (μ0 : Mu) (h0 : H) (c : Code) (f : Env → H → Out) : Prop :=
  ∀ e h x e' h', f e h = some (x, e', h') → ∀ a w Q, Here cx base mask m w0 μ0 h0 e h a w → (∀ a' w', Here cx base mask m w0 μ0 h0 e' h' a' w' → Q (exOf x) a' w') → c.wp P Q a w

theorem loop_sound {c : Code} {f : Env → H → Out} (hf : Runs P cx base mask m w0 μ0 h0 c f) : ∀ (n : Nat) (e : Env) (h : H) (x : Ex) (e' : Env) (h' : H), loopT f n e h = some (x, e', h') →
    ∀ a w Q, Here cx base mask m w0 μ0 h0 e h a w → (∀ a' w', Here cx base mask m w0 μ0 h0 e' h' a' w' → Q (exOf x) a' w') → wpL P c Q a w := by
  intro n
  induction n with
  | zero => intro e h x e' h' hh; simp [loopT] at hh
  | succ n ih =>
    intro e h x e' h' hh a w Q H hQ
    have hh : (bnd (f e h) fun r => three r fun x e' h' => @Ex.rec (fun _ => Out) (loopT f n e' h') (fun i => some (.exit i, e', h')) (some (.ret, e', h')) x) = some (x, e', h') := hh
    replace hh := bnd_eq_some.1 hh; obtain ⟨⟨y, e1, h1⟩, hb, hh⟩ := hh
    refine wpL_round (hf e h y e1 h1 hb a w _ H fun a' w' H' => ?_)
    cases y with
    | normal =>
      have hh : loopT f n e1 h1 = some (x, e', h') := hh
      exact ih e1 h1 x e' h' hh a' w' Q H' hQ
    | exit i =>
      have hh : some (Ex.exit i, e1, h1) = some (x, e', h') := hh
      simp only [Option.some.injEq, Prod.mk.injEq] at hh
      obtain ⟨rfl, rfl, rfl⟩ := hh
      exact hQ a' w' H'
    | ret =>
      have hh : some (Ex.ret, e1, h1) = some (x, e', h') := hh
      simp only [Option.some.injEq, Prod.mk.injEq] at hh
      obtain ⟨rfl, rfl, rfl⟩ := hh
      exact hQ a' w' H'

theorem code_sound (tys : TysOk P cx) (ck : CallOk P cx cf) {drawB : Array Oper → Bool} (dk : DrawOk P cx cf drawB) (fuel : Nat) : ∀ (c : Code), okCode m drawB c = true → Runs P cx base mask m w0 μ0 h0 c (codeT cx cf fuel mask c) := by
  intro c
  induction c with
  | skip =>
    intro _ e h x e' h' hh a w Q H hQ
    have hh : some (Ex.normal, e, h) = some (x, e', h') := hh
    simp only [Option.some.injEq, Prod.mk.injEq] at hh
    obtain ⟨rfl, rfl, rfl⟩ := hh
    exact wp_skip (hQ a w H)
  | exit id =>
    intro _ e h x e' h' hh a w Q H hQ
    have hh : some (Ex.exit id, e, h) = some (x, e', h') := hh
    simp only [Option.some.injEq, Prod.mk.injEq] at hh
    obtain ⟨rfl, rfl, rfl⟩ := hh
    exact wp_exit (hQ a w H)
  | ret =>
    intro _ e h x e' h' hh a w Q H hQ
    have hh : some (Ex.ret, e, h) = some (x, e', h') := hh
    simp only [Option.some.injEq, Prod.mk.injEq] at hh
    obtain ⟨rfl, rfl, rfl⟩ := hh
    exact wp_ret (hQ a w H)
  | region id ops draw =>
    intro ok e h x e' h' hh a w Q H hQ
    simp only [okCode, Bool.and_eq_true] at ok
    have hd := dstB_ok ok.1
    have H' := H.drop
    obtain ⟨vars, tmps⟩ := e
    cases draw with
    | false =>
      have hh : (bnd (runOps cx cf mask ops ops.toList ⟨vars, .nil⟩ h) fun r => two r fun e' h' => some (Ex.normal, (⟨e'.vars, .nil⟩ : Env), h')) = some (x, e', h') := hh
      replace hh := bnd_eq_some.1 hh; obtain ⟨⟨e1, h1⟩, hb, hh⟩ := hh
      simp only [two_mk, Option.some.injEq, Prod.mk.injEq] at hh
      obtain ⟨rfl, rfl, rfl⟩ := hh
      refine wp_region ?_
      rw [List.range_eq_range']
      have := runOps_sound (Q := Q) tys ck hd ops.toList 0 ⟨vars, .nil⟩ h a w (fun j => by simp) hb H' fun a' w' H1 => hQ a' w' H1.drop
      simpa using this
    | true =>
      have hh : (bnd (runDraw cx cf mask ops ops.toList 0 ⟨[], []⟩ ⟨vars, .nil⟩ h) fun r => two r fun e' h' => some (Ex.normal, (⟨e'.vars, .nil⟩ : Env), h')) = some (x, e', h') := hh
      replace hh := bnd_eq_some.1 hh; obtain ⟨⟨e1, h1⟩, hb, hh⟩ := hh
      simp only [two_mk, Option.some.injEq, Prod.mk.injEq] at hh
      obtain ⟨rfl, rfl, rfl⟩ := hh
      exact dk base mask m w0 μ0 h0 ops _ _ h h1 a w Q id (by simpa using ok.2) hd hb H' fun a' w' H1 => hQ a' w' H1.drop
  | seq c1 c2 ih1 ih2 =>
    intro ok e h x e' h' hh a w Q H hQ
    simp only [okCode, Bool.and_eq_true] at ok
    have hh : (bnd (codeT cx cf fuel mask c1 e h) fun r => three r fun x e' h' => @Ex.rec (fun _ => Out) (codeT cx cf fuel mask c2 e' h') (fun i => some (.exit i, e', h')) (some (.ret, e', h')) x) = some (x, e', h') := hh
    replace hh := bnd_eq_some.1 hh; obtain ⟨⟨y, e1, h1⟩, hb, hh⟩ := hh
    refine wp_seq (ih1 ok.1 e h y e1 h1 hb a w _ H fun a' w' H' => ?_)
    cases y with
    | normal => exact ih2 ok.2 e1 h1 x e' h' hh a' w' Q H' hQ
    | exit i =>
      have hh : some (Ex.exit i, e1, h1) = some (x, e', h') := hh
      simp only [Option.some.injEq, Prod.mk.injEq] at hh
      obtain ⟨rfl, rfl, rfl⟩ := hh
      exact hQ a' w' H'
    | ret =>
      have hh : some (Ex.ret, e1, h1) = some (x, e', h') := hh
      simp only [Option.some.injEq, Prod.mk.injEq] at hh
      obtain ⟨rfl, rfl, rfl⟩ := hh
      exact hQ a' w' H'
  | cond o c1 c2 ih1 ih2 =>
    intro ok e h x e' h' hh a w Q H hQ
    simp only [okCode, Bool.and_eq_true] at ok
    have hh : (bnd (opnd cx mask e o) fun v => match v with
      | .bool t => @Bool.rec (fun _ => Out) (codeT cx cf fuel mask c2 e h) (codeT cx cf fuel mask c1 e h) t
      | _ => none) = some (x, e', h') := hh
    replace hh := bnd_eq_some.1 hh; obtain ⟨v, hv, hh⟩ := hh
    cases v <;> simp only [reduceCtorEq] at hh
    rename_i t
    have hc : a.eval o = .bool t := by
      obtain ⟨μ, s, r, _⟩ := H
      exact (opnd_sound s r hv).inv_bool
    cases t with
    | true => exact wp_cond_true hc (ih1 ok.1 e h x e' h' hh a w Q H hQ)
    | false => exact wp_cond_false hc (ih2 ok.2 e h x e' h' hh a w Q H hQ)
  | block id c1 ih =>
    intro ok e h x e' h' hh a w Q H hQ
    have hh : (bnd (codeT cx cf fuel mask c1 e h) fun r => three r fun x e' h' => @Ex.rec (fun _ => Out) (some (.normal, e', h')) (fun i => @Bool.rec (fun _ => Out) (some (.exit i, e', h')) (some (.normal, e', h')) (Nat.beq i id)) (some (.ret, e', h')) x) = some (x, e', h') := hh
    replace hh := bnd_eq_some.1 hh; obtain ⟨⟨y, e1, h1⟩, hb, hh⟩ := hh
    refine wp_block (ih ok e h y e1 h1 hb a w _ H fun a' w' H' => ?_)
    cases y with
    | normal =>
      have hh : some (Ex.normal, e1, h1) = some (x, e', h') := hh
      simp only [Option.some.injEq, Prod.mk.injEq] at hh
      obtain ⟨rfl, rfl, rfl⟩ := hh
      exact hQ a' w' H'
    | exit i =>
      have hh : @Bool.rec (fun _ => Out) (some (.exit i, e1, h1)) (some (.normal, e1, h1)) (Nat.beq i id) = some (x, e', h') := hh
      show (if i = id then Q .normal a' w' else Q (.exit i) a' w')
      cases hbq : Nat.beq i id with
      | true =>
        rw [hbq] at hh
        simp only [Option.some.injEq, Prod.mk.injEq] at hh
        obtain ⟨rfl, rfl, rfl⟩ := hh
        rw [if_pos (Nat.eq_of_beq_eq_true hbq)]
        exact hQ a' w' H'
      | false =>
        rw [hbq] at hh
        simp only [Option.some.injEq, Prod.mk.injEq] at hh
        obtain ⟨rfl, rfl, rfl⟩ := hh
        rw [if_neg (Nat.ne_of_beq_eq_false hbq)]
        exact hQ a' w' H'
    | ret =>
      have hh : some (Ex.ret, e1, h1) = some (x, e', h') := hh
      simp only [Option.some.injEq, Prod.mk.injEq] at hh
      obtain ⟨rfl, rfl, rfl⟩ := hh
      exact hQ a' w' H'
  | loop c1 ih =>
    intro ok e h x e' h' hh a w Q H hQ
    exact wp_of_wpL (loop_sound (ih ok) fuel e h x e' h' hh a w Q H hQ)
  | _ => intro _ e h x e' h' hh; exact absurd hh (by simp [codeT])
end
end Go.TI

/- What an operation looks at: its operands' slots, and at most one box. -/
namespace Go.TI
set_option linter.unusedVariables false

theorem mapOpt_congr {α β : Type} {f g : α → Option β} : ∀ {l : List α}, (∀ x ∈ l, f x = g x) → mapOpt f l = mapOpt g l
  | [], _ => rfl
  | x :: l, h => by
    rw [mapOpt_cons, mapOpt_cons, h x (by simp), mapOpt_congr fun y hy => h y (by simp [hy])]

section
variable {cx : Ctx} {mask : Nat} {e e' : Env} {h h1 h2 : H}

theorem opnds_congr {l : List Operand} (hx : ∀ x ∈ l, opnd cx mask e x = opnd cx mask e' x) : opnds cx mask e l = opnds cx mask e' l := mapOpt_congr hx

theorem partsOf_congr {l : List (Nat × Operand)} (hx : ∀ p ∈ l, opnd cx mask e p.2 = opnd cx mask e' p.2) : partsOf cx mask e l = partsOf cx mask e' l := by
  unfold partsOf
  refine mapOpt_congr fun p hp => ?_
  obtain ⟨i, o⟩ := p
  simp only [two_mk]
  rw [hx (i, o) hp]

theorem optIdx_congr {x : Option Operand} (hx : ∀ o, x = some o → opnd cx mask e o = opnd cx mask e' o) : optIdx cx mask e x = optIdx cx mask e' x := by
  cases x with
  | none => rfl
  | some o =>
    show (bnd (opnd cx mask e o) fun v => bnd (toIdx v) fun n => some (some n)) = (bnd (opnd cx mask e' o) fun v => bnd (toIdx v) fun n => some (some n))
    rw [hx o rfl]

theorem opH_congr {op : Op} (hx : ∀ x ∈ op.operands, opnd cx mask e x = opnd cx mask e' x) : opH op cx mask e h = opH op cx mask e' h := by
  cases op with
  | move x => have h1 := hx x (by simp [Op.operands]); simp only [opH, hMove, h1]
  | assign x => have h1 := hx x (by simp [Op.operands]); simp only [opH, hMove, h1]
  | pick c a b =>
    have h1 := hx c (by simp [Op.operands]); have h2 := hx a (by simp [Op.operands]); have h3 := hx b (by simp [Op.operands])
    simp only [opH, hPick, h1, h2, h3]
  | alloc t => rfl
  | box t x => have h1 := hx x (by simp [Op.operands]); simp only [opH, hBox, h1]
  | build t ps =>
    have h1 : partsOf cx mask e ps.toList = partsOf cx mask e' ps.toList := partsOf_congr fun p hp => hx p.2 (by simp only [Op.operands, List.mem_toArray, List.mem_map]; exact ⟨p, hp, rfl⟩)
    simp only [opH, hBuild, h1]
  | buildSlice t n ps =>
    have h1 : partsOf cx mask e ps.toList = partsOf cx mask e' ps.toList := partsOf_congr fun p hp => hx p.2 (by simp only [Op.operands, List.mem_toArray, List.mem_map]; exact ⟨p, hp, rfl⟩)
    simp only [opH, hBuildSlice, h1]
  | load t a => have h1 := hx a (by simp [Op.operands]); simp only [opH, hLoad, h1]
  | store t a x => have h1 := hx a (by simp [Op.operands]); have h2 := hx x (by simp [Op.operands]); simp only [opH, hStore, h1, h2]
  | nilCheck x => have h1 := hx x (by simp [Op.operands]); simp only [opH, hNilCheck, h1]
  | binOp op t x y u =>
    have h1 := hx x (by simp [Op.operands]); have h2 := hx y (by simp [Op.operands])
    cases op <;> simp only [opH, hEq, hBin, h1, h2]
  | unOp op t x => have h1 := hx x (by simp [Op.operands]); simp only [opH, hUn, h1]
  | convert s d x => have h1 := hx x (by simp [Op.operands]); simp only [opH, hConv, h1]
  | makeInterface t x => have h1 := hx x (by simp [Op.operands]); simp only [opH, hIface, h1]
  | makeFunc fn a b =>
    have h1 : opnds cx mask e b.toList = opnds cx mask e' b.toList := opnds_congr fun x hm => hx x (by simp only [Op.operands, Array.mem_append]; right; simpa using hm)
    simp only [opH, hFunc, h1]
  | makeSlice t l c => have h1 := hx l (by simp [Op.operands]); have h2 := hx c (by simp [Op.operands]); simp only [opH, hMakeSlice, h1, h2]
  | slice t x lo hi mx =>
    have h1 := hx x (by simp [Op.operands])
    have h2 : optIdx cx mask e lo = optIdx cx mask e' lo := optIdx_congr fun o ho => hx o (by subst ho; simp [Op.operands])
    have h3 : optIdx cx mask e hi = optIdx cx mask e' hi := optIdx_congr fun o ho => hx o (by subst ho; simp [Op.operands])
    have h4 : optIdx cx mask e mx = optIdx cx mask e' mx := optIdx_congr fun o ho => hx o (by subst ho; simp [Op.operands])
    simp only [opH, hSlice, h1, h2, h3, h4]
  | fieldAddr t x f => have h1 := hx x (by simp [Op.operands]); simp only [opH, hFieldAddr, h1]
  | field t x f => have h1 := hx x (by simp [Op.operands]); simp only [opH, hField, h1]
  | indexAddr t x i => have h1 := hx x (by simp [Op.operands]); have h2 := hx i (by simp [Op.operands]); simp only [opH, hIndexAddr, h1, h2]
  | index t x i => have h1 := hx x (by simp [Op.operands]); have h2 := hx i (by simp [Op.operands]); simp only [opH, hIndex, h1, h2]
  | extract x i => have h1 := hx x (by simp [Op.operands]); simp only [opH, hExtract, h1]
  | makeMap t r => rfl
  | lookup t x i ok => have h1 := hx x (by simp [Op.operands]); have h2 := hx i (by simp [Op.operands]); simp only [opH, hLookup, h1, h2]
  | mapUpdate t m k x =>
    have h1 := hx m (by simp [Op.operands]); have h2 := hx k (by simp [Op.operands]); have h3 := hx x (by simp [Op.operands])
    simp only [opH, hMapUpdate, h1, h2, h3]
  | range t x => have h1 := hx x (by simp [Op.operands]); simp only [opH, hRangeAt, hRange, hRangeM, h1]
  | next it s => have h1 := hx it (by simp [Op.operands]); simp only [opH, hNext, hNextM, hNextS, h1]
  | entry it => have h1 := hx it (by simp [Op.operands]); simp only [opH, hEntry, h1]
  | «call» c =>
    have h1 : opnds cx mask e c.args.toList = opnds cx mask e' c.args.toList := opnds_congr fun x hm => hx x (by simp only [Op.operands, Call.operands, Array.mem_append]; right; simpa using hm)
    simp only [opH, hCall, h1]
    cases hc : c.callee with
    | builtin b => rfl
    | invoke x m => rfl
    | value f =>
      have h2 := hx f (by simp only [Op.operands, Call.operands, hc]; simp)
      simp only [h2]
  | _ => rfl

theorem looksBox_congr {op : Op} (hx : ∀ x ∈ op.operands, opnd cx mask e x = opnd cx mask e' x) : looksBox cx mask e h op = looksBox cx mask e' h op := by
  cases op with
  | load t x => have h1 := hx x (by simp [Op.operands]); simp only [looksBox, h1]
  | indexAddr t x i => have h1 := hx x (by simp [Op.operands]); simp only [looksBox, h1]
  | slice t x lo hi mx => have h1 := hx x (by simp [Op.operands]); simp only [looksBox, h1]
  | convert s d x => have h1 := hx x (by simp [Op.operands]); simp only [looksBox, h1]
  | lookup t x i ok => have h1 := hx x (by simp [Op.operands]); simp only [looksBox, h1]
  | _ => rfl

/-- The same at two heaps: nothing is made, nothing is looked at. -/
def Ind (h1 h2 : H) (x1 x2 : Option Did) : Prop := ∀ v h', x1 = some (.val v h') → h' = h1 ∧ x2 = some (.val v h2)

theorem Ind.none : Ind h1 h2 none none := fun _ _ hh => by simp at hh
theorem Ind.val {x : Option T} : Ind h1 h2 (val h1 x) (val h2 x) := fun v h' hh => by
  obtain ⟨rfl, rfl⟩ := val_eq_some.1 hh
  exact ⟨rfl, val_eq_some.2 ⟨rfl, rfl⟩⟩
theorem Ind.some {v : T} : Ind h1 h2 (some (.val v h1)) (some (.val v h2)) := fun v h' hh => by
  simp only [Option.some.injEq, Did.val.injEq] at hh
  obtain ⟨rfl, rfl⟩ := hh
  exact ⟨rfl, rfl⟩
theorem Ind.bnd {α : Type} {x : Option α} {f g : α → Option Did} (hf : ∀ y, x = Option.some y → Ind h1 h2 (f y) (g y)) : Ind h1 h2 (bnd x f) (bnd x g) := by
  cases x with
  | none => exact Ind.none
  | some y => exact hf y rfl
theorem Ind.chk {b : Bool} {x y : Option Did} (hx : Ind h1 h2 x y) : Ind h1 h2 (chk b x) (chk b y) := by
  cases b with
  | false => exact Ind.none
  | true => exact hx
theorem Ind.bool {b : Bool} {x y x' y' : Option Did} (hx : Ind h1 h2 x x') (hy : Ind h1 h2 y y') : Ind h1 h2 (Bool.casesOn b x y) (Bool.casesOn b x' y') := by
  cases b <;> assumption

/-- How a new box's number stands in the value. -/
def Fresh (f : Nat → T) : Prop := (∀ b, f b = .ptr b 0 0 0) ∨ (∃ l, ∀ b, f b = .arr b 0 0 l false) ∨ (∀ b, f b = .iter b) ∨ (∀ b, f b = .map b)

/-- A box is made, the same at two heaps. -/
def Mk (h1 h2 : H) (x1 x2 : Option Did) : Prop := ∀ v h', x1 = some (.val v h') → ∃ f x, Fresh f ∧ v = f h1.size ∧ h' = h1.cons x ∧ x2 = some (.val (f h2.size) (h2.cons x))

theorem Mk.none : Mk h1 h2 none none := fun _ _ hh => by simp at hh
theorem Mk.new {f : Nat → T} {x : Box} (hf : Fresh f) : Mk h1 h2 (valNew (h1.new f x)) (valNew (h2.new f x)) := fun v h' hh => by
  rw [valNew_eq_some, H.new_cons] at hh
  simp only [Option.some.injEq, Prod.mk.injEq] at hh
  obtain ⟨rfl, rfl⟩ := hh
  exact ⟨f, x, hf, rfl, rfl, by rw [valNew_eq_some, H.new_cons]⟩
theorem Mk.bnd {α : Type} {x : Option α} {f g : α → Option Did} (hf : ∀ y, x = Option.some y → Mk h1 h2 (f y) (g y)) : Mk h1 h2 (bnd x f) (bnd x g) := by
  cases x with
  | none => exact Mk.none
  | some y => exact hf y rfl
theorem Mk.chk {b : Bool} {x y : Option Did} (hx : Mk h1 h2 x y) : Mk h1 h2 (chk b x) (chk b y) := by
  cases b with
  | false => exact Mk.none
  | true => exact hx

theorem mk_alloc {t : TypeId} : Mk h1 h2 (opH (.alloc t) cx mask e h1) (opH (.alloc t) cx mask e h2) := by
  simp only [opH, hAlloc]
  refine Mk.bnd fun ty _ => ?_
  cases isBytes cx ty <;> exact Mk.new (.inl fun _ => rfl)
theorem mk_box {t : TypeId} {x : Operand} : Mk h1 h2 (opH (.box t x) cx mask e h1) (opH (.box t x) cx mask e h2) := by
  simp only [opH, hBox]
  exact Mk.bnd fun v _ => Mk.chk (Mk.new (.inl fun _ => rfl))
theorem mk_buildSlice {t : TypeId} {n : Nat} {ps : Array (Nat × Operand)} : Mk h1 h2 (opH (.buildSlice t n ps) cx mask e h1) (opH (.buildSlice t n ps) cx mask e h2) := by
  simp only [opH, hBuildSlice]
  refine Mk.bnd fun ty _ => ?_
  cases ty.u <;> first
    | exact Mk.none
    | exact Mk.bnd fun te _ => Mk.bnd fun ps _ => Mk.chk (Mk.chk (Mk.bnd fun es _ => Mk.new (.inr (.inl ⟨_, fun _ => rfl⟩))))
theorem mk_makeSlice {t : TypeId} {l c : Operand} : Mk h1 h2 (opH (.makeSlice t l c) cx mask e h1) (opH (.makeSlice t l c) cx mask e h2) := by
  simp only [opH, hMakeSlice]
  refine Mk.bnd fun ty _ => ?_
  cases ty.u <;> first
    | exact Mk.none
    | exact Mk.bnd fun te _ => Mk.bnd fun _ _ => Mk.bnd fun _ _ => Mk.bnd fun _ _ => Mk.bnd fun _ _ => Mk.chk (Mk.chk (Mk.chk (Mk.chk (Mk.new (.inr (.inl ⟨_, fun _ => rfl⟩))))))
theorem mk_makeMap {t : TypeId} {r : Option Operand} : Mk h1 h2 (opH (.makeMap t r) cx mask e h1) (opH (.makeMap t r) cx mask e h2) := by
  simp only [opH, hMakeMap]
  cases r with
  | some y => exact Mk.none
  | none =>
    refine Mk.bnd fun ty _ => ?_
    cases ty.u <;> first
      | exact Mk.none
      | exact Mk.new (.inr (.inr (.inr fun _ => rfl)))

theorem load_heap {ty : Ty} {a v : T} (hl : ∀ b, boxOf a = some b → b < h1.size → h2.get b = h1.get b) (hh : h1.load ty a = some v) : h2.load ty a = some v := by
  cases a with
  | ptr b ep i j =>
    have hh : (bnd (h1.elem b ep i) fun e => bnd (dropN j e.cells) fun cs => readAs ty cs) = some v := hh
    show (bnd (h2.elem b ep i) fun e => bnd (dropN j e.cells) fun cs => readAs ty cs) = some v
    replace hh := bnd_eq_some.1 hh; obtain ⟨el, he, hh⟩ := hh
    have he2 : h2.elem b ep i = some el := by
      have he' := he
      unfold H.elem at he' ⊢
      replace he' := bnd_eq_some.1 he'; obtain ⟨x, hx, _⟩ := he'
      rw [hl b rfl (H.get_lt hx)]
      exact he
    rw [he2]; exact hh
  | _ => exact hh

theorem idxSlice_heap {te : Ty} {x : T} {i : Nat} (hl : ∀ b, boxOf x = some b → b < h1.size → h2.get b = h1.get b) : Ind h1 h2 (idxSlice h1 te x i) (idxSlice h2 te x i) := by
  cases x with
  | tree es f => exact Ind.bnd fun _ _ => Ind.chk Ind.some
  | arr b ep o l f =>
    intro v h' hh
    have hh0 := hh
    have hh : chk (Nat.blt i l) (bnd (h1.get b) fun bx => chk (Nat.beq bx.sz te.size) <| chk (Nat.beq bx.ep ep) (bnd (normNat (Nat.add o i)) fun k => some (Did.val (.ptr b ep k 0) h1))) = some (.val v h') := hh
    obtain ⟨_, hh⟩ := chk_eq_some.1 hh
    obtain ⟨x, hx, _⟩ := bnd_eq_some.1 hh
    have e2 := hl b rfl (H.get_lt hx)
    have : idxSlice h2 te (.arr b ep o l f) i = chk (Nat.blt i l) (bnd (h1.get b) fun bx => chk (Nat.beq bx.sz te.size) <| chk (Nat.beq bx.ep ep) (bnd (normNat (Nat.add o i)) fun k => some (Did.val (.ptr b ep k 0) h2))) := by
      rw [← e2]; rfl
    rw [this]
    exact (Ind.chk (Ind.bnd fun _ _ => Ind.chk (Ind.chk (Ind.bnd fun _ _ => Ind.some))) : Ind h1 h2 (chk (Nat.blt i l) (bnd (h1.get b) fun bx => chk (Nat.beq bx.sz te.size) <| chk (Nat.beq bx.ep ep) (bnd (normNat (Nat.add o i)) fun k => some (Did.val (.ptr b ep k 0) h1)))) _) v h' hh0
  | _ => exact Ind.none

theorem idxArray_heap {n : Nat} {te : Ty} {x : T} {i : Nat} (hl : ∀ b, boxOf x = some b → b < h1.size → h2.get b = h1.get b) : Ind h1 h2 (idxArray h1 n te x i) (idxArray h2 n te x i) := by
  unfold idxArray
  refine Ind.chk ?_
  cases x <;> first
    | exact Ind.none
    | exact Ind.bnd fun _ _ => Ind.some
    | skip
  rename_i b ep i0 j
  simp only
  cases hb : h1.get b with
  | none => intro v h' hh; simp at hh
  | some bx =>
    rw [hl b rfl (H.get_lt hb), hb]
    simp only [bnd_some]
    exact Ind.bool (Ind.bnd fun _ _ => Ind.some) (Ind.chk (Ind.bnd fun _ _ => Ind.some))

theorem items_heap {x : T} {es : List T} (hl : ∀ b, boxOf x = some b → b < h1.size → h2.get b = h1.get b) (hh : h1.items x = some es) : h2.items x = some es := by
  cases x with
  | arr b ep o l f =>
    have hh' := hh
    unfold H.items at hh' ⊢
    simp only at hh' ⊢
    obtain ⟨bx, hb, _⟩ := bnd_eq_some.1 hh'
    rw [hl b rfl (H.get_lt hb)]
    exact hh
  | _ => exact hh

theorem entries_heap {x : T} {es : List T} (hl : ∀ b, boxOf x = some b → b < h1.size → h2.get b = h1.get b) (hh : h1.entries x = some es) : h2.entries x = some es := by
  cases x with
  | map b =>
    have hh' := hh
    unfold H.entries at hh' ⊢
    simp only at hh' ⊢
    obtain ⟨bx, hb, _⟩ := bnd_eq_some.1 hh'
    rw [hl b rfl (H.get_lt hb)]
    exact hh
  | _ => exact hh

theorem sliceable_heap {u : U} {x : T} (hl : ∀ b, boxOf x = some b → b < h1.size → h2.get b = h1.get b) (hh : sliceable cx h1 u x = true) : sliceable cx h2 u x = true := by
  cases u with
  | slice e =>
    unfold sliceable at hh ⊢
    simp only at hh ⊢
    cases hte : cx.ty e with
    | none => rw [hte] at hh; exact hh
    | some te =>
      rw [hte] at hh
      cases x with
      | arr b ep o l f =>
        simp only at hh ⊢
        cases hb : h1.get b with
        | none => rw [hb] at hh; simp at hh
        | some bx => rw [hl b rfl (H.get_lt hb), hb]; rw [hb] at hh; exact hh
      | _ => exact hh
  | array n e =>
    unfold sliceable at hh ⊢
    simp only at hh ⊢
    cases hte : cx.ty e with
    | none => rw [hte] at hh; exact hh
    | some te =>
      rw [hte] at hh
      cases x with
      | ptr b ep i j =>
        simp only at hh ⊢
        cases hb : h1.get b with
        | none => rw [hb] at hh; simp at hh
        | some bx => rw [hl b rfl (H.get_lt hb), hb]; rw [hb] at hh; exact hh
      | _ => exact hh
  | _ => exact hh

theorem opH_heap {op : Op} (hne : isEff op = false) (hl : ∀ b, looksBox cx mask e h1 op = some b → b < h1.size → h2.get b = h1.get b) {v : T} {h' : H} (hh : opH op cx mask e h1 = some (.val v h')) :
    (h' = h1 ∧ opH op cx mask e h2 = some (.val v h2)) ∨
    (∃ f x, Fresh f ∧ looksBox cx mask e h1 op = some h1.size ∧ v = f h1.size ∧ h' = h1.cons x ∧ opH op cx mask e h2 = some (.val (f h2.size) (h2.cons x))) := by
  have mk : Mk h1 h2 (opH op cx mask e h1) (opH op cx mask e h2) → looksBox cx mask e h1 op = some h1.size → (h' = h1 ∧ opH op cx mask e h2 = some (.val v h2)) ∨
    (∃ f x, Fresh f ∧ looksBox cx mask e h1 op = some h1.size ∧ v = f h1.size ∧ h' = h1.cons x ∧ opH op cx mask e h2 = some (.val (f h2.size) (h2.cons x))) := fun m hb => by
    obtain ⟨f, x, k1, k2, k3, k4⟩ := m v h' hh
    exact Or.inr ⟨f, x, k1, hb, k2, k3, k4⟩
  cases op with
  | alloc t => exact mk mk_alloc rfl
  | box t x => exact mk mk_box rfl
  | buildSlice t n ps => exact mk mk_buildSlice rfl
  | makeSlice t l c => exact mk mk_makeSlice rfl
  | range => simp [isEff] at hne
  | entry => simp [isEff] at hne
  | store => simp [isEff] at hne
  | next => simp [isEff] at hne
  | load t a =>
    left
    have hh : (bnd (cx.ty t) fun ty => bnd (opnd cx mask e a) fun a => val h1 (h1.load ty a)) = some (.val v h') := hh
    replace hh := bnd_eq_some.1 hh; obtain ⟨ty, hty, hh⟩ := hh
    replace hh := bnd_eq_some.1 hh; obtain ⟨p, hp, hh⟩ := hh
    obtain ⟨hv, rfl⟩ := val_eq_some.1 hh
    refine ⟨rfl, ?_⟩
    show (bnd (cx.ty t) fun ty => bnd (opnd cx mask e a) fun a => val h2 (h2.load ty a)) = some (.val v h2)
    rw [hty, hp]
    exact val_eq_some.2 ⟨load_heap (fun b hb hlt => hl b (by show bnd (opnd cx mask e a) boxOf = some b; rw [hp]; exact hb) hlt) hv, rfl⟩
  | indexAddr t x ix =>
    left
    have key : ∀ p, opnd cx mask e x = some p → ∀ b, boxOf p = some b → b < h1.size → h2.get b = h1.get b := fun p hp b hb hlt =>
      hl b (by show bnd (opnd cx mask e x) boxOf = some b; rw [hp]; exact hb) hlt
    have : Ind h1 h2 (opH (.indexAddr t x ix) cx mask e h1) (opH (.indexAddr t x ix) cx mask e h2) := by
      simp only [opH, hIndexAddr]
      refine Ind.bnd fun ty _ => Ind.bnd fun p hp => Ind.bnd fun _ _ => Ind.bnd fun i _ => ?_
      cases ty.u <;> first
        | exact Ind.none
        | exact Ind.bnd fun te _ => idxSlice_heap (key p hp)
        | exact Ind.bnd fun te _ => idxArray_heap (key p hp)
    exact this v h' hh
  | slice t x lo hi mx =>
    left
    have hh : (bnd (cx.ty t) fun ty => bnd (opnd cx mask e x) fun x => chk (sliceable cx h1 ty.u x) <| bnd (optIdx cx mask e lo) fun lo => bnd (optIdx cx mask e hi) fun hi => bnd (optIdx cx mask e mx) fun mx =>
      chk (mxOk hi mx) (val h1 (sliceT (asSlice ty.u x) lo hi mx))) = some (.val v h') := hh
    replace hh := bnd_eq_some.1 hh; obtain ⟨ty, hty, hh⟩ := hh
    replace hh := bnd_eq_some.1 hh; obtain ⟨p, hp, hh⟩ := hh
    obtain ⟨hs, hh⟩ := chk_eq_some.1 hh
    have hs2 : sliceable cx h2 ty.u p = true := sliceable_heap (fun b hb hlt => hl b (by show bnd (opnd cx mask e x) boxOf = some b; rw [hp]; exact hb) hlt) hs
    have : Ind h1 h2 (bnd (optIdx cx mask e lo) fun lo => bnd (optIdx cx mask e hi) fun hi => bnd (optIdx cx mask e mx) fun mx => chk (mxOk hi mx) (val h1 (sliceT (asSlice ty.u p) lo hi mx)))
      (bnd (optIdx cx mask e lo) fun lo => bnd (optIdx cx mask e hi) fun hi => bnd (optIdx cx mask e mx) fun mx => chk (mxOk hi mx) (val h2 (sliceT (asSlice ty.u p) lo hi mx))) :=
      Ind.bnd fun _ _ => Ind.bnd fun _ _ => Ind.bnd fun _ _ => Ind.chk Ind.val
    obtain ⟨k1, k2⟩ := this v h' hh
    refine ⟨k1, ?_⟩
    show (bnd (cx.ty t) fun ty => bnd (opnd cx mask e x) fun x => chk (sliceable cx h2 ty.u x) <| bnd (optIdx cx mask e lo) fun lo => bnd (optIdx cx mask e hi) fun hi => bnd (optIdx cx mask e mx) fun mx =>
      chk (mxOk hi mx) (val h2 (sliceT (asSlice ty.u x) lo hi mx))) = some (.val v h2)
    rw [hty, hp]
    simp only [bnd_some, hs2, chk_true]
    exact k2
  | «call» c =>
    left
    have : Ind h1 h2 (opH (.call c) cx mask e h1) (opH (.call c) cx mask e h2) := by
      simp only [opH, hCall]
      refine Ind.bnd fun args _ => ?_
      cases hc : c.callee with
      | invoke x m => exact Ind.none
      | value f => simp [isEff, hc] at hne
      | builtin b =>
        cases b <;> simp [isEff, hc] at hne <;> simp only [builtinT]
        case len =>
          match args with
          | [] => exact Ind.none
          | [x] =>
            simp only [bLen]
            refine Ind.bnd fun _ _ => Ind.bnd fun ty _ => ?_
            cases ty.u <;> first
              | exact Ind.none
              | exact Ind.val
              | (cases x <;> first | exact Ind.none | exact Ind.val)
          | _ :: _ :: _ => exact Ind.none
        all_goals
          match args with
          | [] => exact Ind.none
          | [x] => exact Ind.none
          | [x, y] => exact Ind.val
          | _ :: _ :: _ :: _ => exact Ind.none
    exact this v h' hh
  | binOp op t x y u =>
    left
    have : Ind h1 h2 (opH (.binOp op t x y u) cx mask e h1) (opH (.binOp op t x y u) cx mask e h2) := by
      cases op <;> simp only [opH, hEq, hBin] <;> first
        | exact Ind.bnd fun _ _ => Ind.bnd fun _ _ => Ind.bnd fun _ _ => Ind.chk (Ind.bnd fun _ _ => Ind.val)
        | exact Ind.bnd fun _ _ => Ind.bnd fun _ _ => Ind.val
    exact this v h' hh
  | move x => left; exact (show Ind h1 h2 (opH (.move x) cx mask e h1) (opH (.move x) cx mask e h2) from Ind.val) v h' hh
  | assign x => left; exact (show Ind h1 h2 (opH (.assign x) cx mask e h1) (opH (.assign x) cx mask e h2) from Ind.val) v h' hh
  | pick c a b =>
    left
    have : Ind h1 h2 (opH (.pick c a b) cx mask e h1) (opH (.pick c a b) cx mask e h2) := by
      simp only [opH, hPick]
      refine Ind.bnd fun v _ => ?_
      cases v <;> first | exact Ind.none | exact Ind.bool Ind.val Ind.val
    exact this v h' hh
  | build t ps =>
    left
    have : Ind h1 h2 (opH (.build t ps) cx mask e h1) (opH (.build t ps) cx mask e h2) := by
      simp only [opH, hBuild]
      refine Ind.bnd fun ty _ => Ind.bnd fun _ _ => ?_
      cases ty.u <;> first | exact Ind.none | exact Ind.bnd fun _ _ => Ind.val | exact Ind.bnd fun _ _ => Ind.bnd fun _ _ => Ind.val
    exact this v h' hh
  | nilCheck x =>
    left
    have : Ind h1 h2 (opH (.nilCheck x) cx mask e h1) (opH (.nilCheck x) cx mask e h2) := by
      simp only [opH, hNilCheck]
      refine Ind.bnd fun v _ => ?_
      cases v <;> first | exact Ind.none | exact Ind.some
    exact this v h' hh
  | unOp op t x => left; exact (show Ind h1 h2 (opH (.unOp op t x) cx mask e h1) (opH (.unOp op t x) cx mask e h2) from Ind.bnd fun _ _ => Ind.val) v h' hh
  | convert s d x =>
    left
    have hh : (bnd (cx.ty s) fun _ => bnd (opnd cx mask e x) fun a => bnd (cx.ty d) fun dd => match dd.u with
      | .slice _ => val h1 (bytesT cx d a)
      | .str => (match a with
        | .str _ => val h1 (conv cx d a)
        | _ => val h1 (strT cx h1 s a))
      | _ => val h1 (conv cx d a)) = some (.val v h') := hh
    show h' = h1 ∧ (bnd (cx.ty s) fun _ => bnd (opnd cx mask e x) fun a => bnd (cx.ty d) fun dd => match dd.u with
      | .slice _ => val h2 (bytesT cx d a)
      | .str => (match a with
        | .str _ => val h2 (conv cx d a)
        | _ => val h2 (strT cx h2 s a))
      | _ => val h2 (conv cx d a)) = some (.val v h2)
    obtain ⟨ts, hts, hh⟩ := bnd_eq_some.1 hh
    obtain ⟨p, hp, hh⟩ := bnd_eq_some.1 hh
    obtain ⟨td, htd, hh⟩ := bnd_eq_some.1 hh
    rw [hts, hp, htd]
    simp only [bnd_some]
    have hstr : ∀ {u : T}, strT cx h1 s p = some u → strT cx h2 s p = some u := by
      intro u hu
      unfold strT at hu ⊢
      obtain ⟨t2, ht2, hu⟩ := bnd_eq_some.1 hu
      rw [ht2]
      simp only [bnd_some]
      cases hut : t2.u <;> rw [hut] at hu <;> simp only [reduceCtorEq] at hu ⊢
      obtain ⟨te, hte, hu⟩ := bnd_eq_some.1 hu
      rw [hte]
      simp only [bnd_some]
      cases hute : te.u <;> rw [hute] at hu <;> simp only [reduceCtorEq] at hu ⊢
      obtain ⟨g1, hu⟩ := chk_eq_some.1 hu
      rw [g1, chk_true]
      obtain ⟨es, hes, hu⟩ := bnd_eq_some.1 hu
      rw [items_heap (fun b hb hlt => hl b (by show bnd (opnd cx mask e x) boxOf = some b; rw [hp]; exact hb) hlt) hes]
      exact hu
    cases hud : td.u <;> rw [hud] at hh <;> simp only at hh ⊢
    case str =>
      cases p <;> simp only at hh ⊢ <;> (obtain ⟨hv, rfl⟩ := val_eq_some.1 hh) <;> first
        | exact ⟨rfl, val_eq_some.2 ⟨hstr hv, rfl⟩⟩
        | exact ⟨rfl, val_eq_some.2 ⟨hv, rfl⟩⟩
    all_goals
      obtain ⟨hv, rfl⟩ := val_eq_some.1 hh
      exact ⟨rfl, val_eq_some.2 ⟨hv, rfl⟩⟩
  | lookup t x ix ok =>
    left
    have : Ind h1 h2 (opH (.lookup t x ix ok) cx mask e h1) (opH (.lookup t x ix ok) cx mask e h2) := by
      simp only [opH, hLookup]
      refine Ind.bnd fun ty _ => ?_
      cases ty.u <;> first
        | exact Ind.none
        | skip
      refine Ind.bnd fun tk _ => Ind.bnd fun te _ => Ind.bnd fun p hp => Ind.bnd fun k _ => Ind.chk ?_
      intro v h' hh
      obtain ⟨es, hes, hh⟩ := bnd_eq_some.1 hh
      have hes2 := entries_heap (h2 := h2) (fun b hb hlt => hl b (by show bnd (opnd cx mask e x) boxOf = some b; rw [hp]; exact hb) hlt) hes
      rw [hes2]
      obtain ⟨r, hr, hh⟩ := bnd_eq_some.1 hh
      simp only [bnd_some, hr]
      cases r with
      | none => exact (Ind.bool Ind.val Ind.val : Ind h1 h2 _ _) v h' hh
      | some q => obtain ⟨i, u⟩ := q; exact (Ind.bool Ind.val Ind.val : Ind h1 h2 _ _) v h' hh
    exact this v h' hh
  | makeMap t r => exact mk mk_makeMap rfl
  | mapUpdate => simp [isEff] at hne
  | makeInterface t x =>
    left
    have : Ind h1 h2 (opH (.makeInterface t x) cx mask e h1) (opH (.makeInterface t x) cx mask e h2) := by
      simp only [opH, hIface]
      refine Ind.bnd fun ty _ => ?_
      cases ty.u <;> first | exact Ind.none | exact Ind.bnd fun _ _ => Ind.chk Ind.val
    exact this v h' hh
  | makeFunc fn a b =>
    left
    have : Ind h1 h2 (opH (.makeFunc fn a b) cx mask e h1) (opH (.makeFunc fn a b) cx mask e h2) := by
      simp only [opH, hFunc]
      cases fn <;> first
        | exact Ind.none
        | (cases a.toList <;> first | exact Ind.none | exact Ind.bnd fun _ _ => Ind.val)
    exact this v h' hh
  | fieldAddr t x f =>
    left
    have : Ind h1 h2 (opH (.fieldAddr t x f) cx mask e h1) (opH (.fieldAddr t x f) cx mask e h2) := by
      simp only [opH, hFieldAddr]
      refine Ind.bnd fun _ _ => Ind.bnd fun v _ => ?_
      cases v <;> first | exact Ind.none | exact Ind.bnd fun _ _ => Ind.some
    exact this v h' hh
  | field t x f =>
    left
    have : Ind h1 h2 (opH (.field t x f) cx mask e h1) (opH (.field t x f) cx mask e h2) := by
      simp only [opH, hField]
      refine Ind.bnd fun _ _ => Ind.bnd fun _ _ => Ind.bnd fun v _ => ?_
      cases v <;> first | exact Ind.none | exact Ind.bnd fun _ _ => Ind.val
    exact this v h' hh
  | index t x ix =>
    left
    have : Ind h1 h2 (opH (.index t x ix) cx mask e h1) (opH (.index t x ix) cx mask e h2) := by
      simp only [opH, hIndex]
      refine Ind.bnd fun ty _ => Ind.bnd fun v _ => Ind.bnd fun _ _ => Ind.bnd fun _ _ => ?_
      cases ty.u <;> first
        | exact Ind.none
        | (cases v <;> first | exact Ind.none | exact Ind.bnd fun _ _ => Ind.val | exact Ind.bnd fun _ _ => Ind.chk (Ind.bnd fun _ _ => Ind.val))
    exact this v h' hh
  | extract x i =>
    left
    have : Ind h1 h2 (opH (.extract x i) cx mask e h1) (opH (.extract x i) cx mask e h2) := by
      simp only [opH, hExtract]
      refine Ind.bnd fun v _ => ?_
      cases v <;> first | exact Ind.none | exact Ind.val
    exact this v h' hh
  | _ => exact absurd hh (by simp [opH])
end
end Go.TI
