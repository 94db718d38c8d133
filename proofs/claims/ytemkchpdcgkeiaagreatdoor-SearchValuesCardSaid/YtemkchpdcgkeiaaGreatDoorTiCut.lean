/- Boxes that are forgotten: what leads to none of them stands as before. -/
import Derived.Test.YtemkchpdcgkeiaaGreatDoorTiGrow
namespace Go.TI
set_option linter.unusedSimpArgs false
set_option linter.unusedVariables false
set_option linter.unusedVariables false

/-- Every box that the value leads to is below n. -/
inductive Low (n : Nat) : T → Prop where
  | undef : Low n .undef
  | bool (b : Bool) : Low n (.bool b)
  | int (k : IntKind) (m : Int) : Low n (.int k m)
  | str (s : List Nat) : Low n (.str s)
  | nilp : Low n .nilp
  | ptr (b ep i j : Nat) (h : b < n) : Low n (.ptr b ep i j)
  | tptr (cs : List T) (h : ∀ v ∈ cs, Low n v) : Low n (.tptr cs)
  | tree (es : List T) (full : Bool) (h : ∀ v ∈ flat es, Low n v) : Low n (.tree es full)
  | ewild : Low n .ewild
  | arr (b ep o l : Nat) (full : Bool) (h : b < n) : Low n (.arr b ep o l full)
  | func (f : FuncId) (cs : List T) (h : ∀ v ∈ cs, Low n v) : Low n (.func f cs)
  | nilf : Low n .nilf
  | nili : Low n .nili
  | iface (t : TypeId) (v : T) (h : Low n v) : Low n (.iface t v)
  | iter (b : Nat) (h : b < n) : Low n (.iter b)
  | map (b : Nat) (h : b < n) : Low n (.map b)
  | nilm : Low n .nilm
  | agg (cs : List T) (h : ∀ v ∈ cs, Low n v) : Low n (.agg cs)
  | tuple (vs : List T) (h : ∀ v ∈ vs, Low n v) : Low n (.tuple vs)

theorem Low.cells {n : Nat} {v : T} (h : Low n v) : ∀ x ∈ v.cells, Low n x := by
  cases h with
  | agg cs h => exact h
  | _ => intro x hx; simp [T.cells] at hx; subst hx; constructor <;> assumption

theorem Closed.low {v : T} (h : Closed v) (n : Nat) : Low n v := by
  induction h with
  | tree es full _ ih =>
    refine .tree es full fun v hv => ?_
    obtain ⟨e, he, hx⟩ := List.mem_flatMap.1 hv
    exact (ih e he).cells v hx
  | _ => constructor <;> assumption

theorem RelV.low {hp : Array Obj} {μ : Mu} {v : T} {c : Value} (h : RelV hp μ v c) {n : Nat} (hd : ∀ b L, μ b = some L → b < n) : Low n v := by
  induction h with
  | ptr b ep i j L a hb he ha => exact .ptr _ _ _ _ (hd _ _ hb)
  | arr b ep o l full L a cp hb he hl h => exact .arr _ _ _ _ _ (hd _ _ hb)
  | iter b L a hb h => exact .iter _ (hd _ _ hb)
  | map b L i hb h => exact .map _ (hd _ _ hb)
  | tptr cells blk off arr t fz hn hh hs hc hr ih => exact .tptr _ fun v hv => by obtain ⟨k, hk⟩ := List.mem_iff_getElem?.1 hv; exact ih k v hk
  | tree0 full a => exact .tree _ _ fun v hv => by simp [flat] at hv
  | tree e es full blk off cap sz arr t fz hn hh hl hf hu hs hc hr ih => exact .tree _ _ fun v hv => by obtain ⟨k, hk⟩ := List.mem_iff_getElem?.1 hv; exact ih k v hk
  | func f caps cs hs hr ih => exact .func _ _ fun v hv => by obtain ⟨k, hk⟩ := List.mem_iff_getElem?.1 hv; exact ih k v hk
  | agg cells cs hs hc hr ih => exact .agg _ fun v hv => by obtain ⟨k, hk⟩ := List.mem_iff_getElem?.1 hv; exact ih k v hk
  | tuple vs cs hs hr ih => exact .tuple _ fun v hv => by obtain ⟨k, hk⟩ := List.mem_iff_getElem?.1 hv; exact ih k v hk
  | iface t v c h ih => exact .iface _ _ ih
  | _ => constructor

def cutMu (n : Nat) (μ : Mu) : Mu := ⟨fun b => if b < n then μ b else none, μ.res⟩

theorem cutMu_lt {n b : Nat} {μ : Mu} (h : b < n) : cutMu n μ b = μ b := by simp [cutMu, h]
theorem cutMu_some {n b : Nat} {μ : Mu} {L : Loc} (h : cutMu n μ b = some L) : b < n ∧ μ b = some L := by
  have h : (if b < n then μ b else none) = some L := h
  split at h
  · exact ⟨by assumption, h⟩
  · simp at h
theorem not_cutMu {n i : Nat} {μ : Mu} (h : ¬ InMu μ i) : ¬ InMu (cutMu n μ) i := by
  rintro (⟨b, L, hb, rfl⟩ | hr)
  · exact h (.inl ⟨b, L, (cutMu_some hb).2, rfl⟩)
  · exact h (.inr hr)

theorem RelV.cut {hp : Array Obj} {μ : Mu} {v : T} {c : Value} (h : RelV hp μ v c) {n : Nat} (hl : Low n v) : RelV hp (cutMu n μ) v c := by
  induction h with
  | undef => exact .undef
  | bool b => exact .bool b
  | int k m => exact .int k m
  | str s h => exact .str s h
  | nilp => exact .nilp
  | ptr b ep i j L a hb he ha => cases hl with | ptr _ _ _ _ h => exact .ptr b ep i j L a (by rw [cutMu_lt h]; exact hb) he ha
  | tptr cells blk off arr t fz hn hh hs hc hr ih =>
    cases hl with | tptr _ h => exact .tptr cells blk off arr t fz (not_cutMu hn) hh hs hc fun k v hk => ih k v hk (h v (List.mem_of_getElem? hk))
  | tree0 full a => exact .tree0 full a
  | tree e es full blk off cap sz arr t fz hn hh hl' hf hu hs hc hr ih =>
    cases hl with | tree _ _ h => exact .tree e es full blk off cap sz arr t fz (not_cutMu hn) hh hl' hf hu hs hc fun k v hk => ih k v hk (h v (List.mem_of_getElem? hk))
  | ewild a cap => exact .ewild a cap
  | arr b ep o l full L a cp hb he hl' h' => cases hl with | arr _ _ _ _ _ h => exact .arr b ep o l full L a cp (by rw [cutMu_lt h]; exact hb) he hl' h'
  | func f caps cs hs hr ih => cases hl with | func _ _ h => exact .func f caps cs hs fun k v hk => ih k v hk (h v (List.mem_of_getElem? hk))
  | nilf => exact .nilf
  | nili => exact .nili
  | iface t v c h ih => cases hl with | iface _ _ h => exact .iface t v c (ih h)
  | iter b L a hb h' => cases hl with | iter _ h => exact .iter b L a (by rw [cutMu_lt h]; exact hb) h'
  | map b L i hb h' => cases hl with | map _ h => exact .map b L i (by rw [cutMu_lt h]; exact hb) h'
  | nilm => exact .nilm
  | agg cells cs hs hc hr ih => cases hl with | agg _ h => exact .agg cells cs hs hc fun k v hk => ih k v hk (h v (List.mem_of_getElem? hk))
  | tuple vs cs hs hr ih => cases hl with | tuple _ h => exact .tuple vs cs hs fun k v hk => ih k v hk (h v (List.mem_of_getElem? hk))

theorem RelL.cut {hp : Array Obj} {μ : Mu} {vs : List T} {cs : List Value} (h : RelL hp μ vs cs) {n : Nat} (hl : ∀ v ∈ vs, Low n v) : RelL hp (cutMu n μ) vs cs :=
  ⟨h.1, fun k v hv => (h.2 k v hv).cut (hl v (List.mem_of_getElem? hv))⟩

/-- The cells of a box that is left as it is. -/
theorem BoxOk.cut {hp : Array Obj} {μ : Mu} {L : Loc} {x : Box} (h : BoxOk hp μ L x) {n : Nat} (hl : ∀ v ∈ flat x.elems, Low n v) : BoxOk hp (cutMu n μ) L x := by
  refine ⟨h.ep, h.sz, fun k => ?_, fun k => ?_⟩
  · have p := h.plain k
    obtain ⟨arr, t, h1, h2, h3⟩ := p.row
    exact ⟨⟨arr, t, h1, h2, h3.cut hl⟩, p.room, p.exact_, p.size, p.scalar⟩
  · obtain ⟨h0, h1 | ⟨es, h1, h2, h3⟩⟩ := h.iter k
    · exact ⟨h0, .inl h1⟩
    · refine ⟨h0, .inr ⟨es, h1, h2, fun i y hy => ?_⟩⟩
      obtain ⟨k, v, me, g1, g2, g3, g4, g5⟩ := h3 i y hy
      have hlow := hl y (List.mem_flatMap.2 ⟨y, List.mem_of_getElem? hy, by rw [g1]; simp [T.cells]⟩)
      rw [g1] at hlow
      cases hlow with | tuple _ hlow => exact ⟨k, v, me, g1, g2, g3, g4.cut (hlow k (by simp)), g5.cut (hlow v (by simp))⟩

/-- What lies in a box leads to boxes below the heap's size. -/
theorem BoxOk.low {hp : Array Obj} {μ : Mu} {L : Loc} {x : Box} (h : BoxOk hp μ L x) {n : Nat} (hd : ∀ b L, μ b = some L → b < n) : ∀ v ∈ flat x.elems, Low n v := by
  intro v hv
  cases hi : x.it with
  | false =>
    obtain ⟨arr, t, h1, h2, h3⟩ := (h.plain hi).row
    obtain ⟨k, hk⟩ := List.mem_iff_getElem?.1 hv
    exact (h3.2 k v hk).low hd
  | true =>
    obtain ⟨_, ⟨s, pos, he, _⟩ | ⟨es, h1, h2, h3⟩⟩ := h.iter hi
    · rw [he] at hv
      simp [flat, T.cells] at hv
      rcases hv with rfl | rfl <;> constructor
    · obtain ⟨y, hy, hvy⟩ := List.mem_flatMap.1 hv
      obtain ⟨i, hi⟩ := List.mem_iff_getElem?.1 hy
      obtain ⟨k, u, me, g1, g2, g3, g4, g5⟩ := h3 i y hi
      rw [g1] at hvy
      simp [T.cells] at hvy
      subst hvy
      refine .tuple _ fun z hz => ?_
      simp at hz
      rcases hz with rfl | rfl
      · exact g4.low hd
      · exact g5.low hd

/-- A list against a list, one by one. -/
inductive All2 {α β : Type} (R : α → β → Prop) : List α → List β → Prop where
  | nil : All2 R [] []
  | cons {a : α} {b : β} {l : List α} {m : List β} (h : R a b) (t : All2 R l m) : All2 R (a :: l) (b :: m)

theorem All2.imp {α β : Type} {R R' : α → β → Prop} {l : List α} {m : List β} (h : All2 R l m) (hi : ∀ a b, R a b → R' a b) : All2 R' l m := by
  induction h with
  | nil => exact .nil
  | cons a _ ih => exact .cons (hi _ _ a) ih
theorem All2.length {α β : Type} {R : α → β → Prop} {l : List α} {m : List β} (h : All2 R l m) : l.length = m.length := by
  induction h with
  | nil => rfl
  | cons _ _ ih => simp [ih]
theorem All2.append {α β : Type} {R : α → β → Prop} {l l' : List α} {m m' : List β} (h : All2 R l m) (h' : All2 R l' m') : All2 R (l ++ l') (m ++ m') := by
  induction h with
  | nil => exact h'
  | cons a _ ih => exact .cons a ih
theorem All2.get {α β : Type} {R : α → β → Prop} {l : List α} {m : List β} (h : All2 R l m) {k : Nat} {y : β} (hy : m[k]? = some y) : ∃ x, l[k]? = some x ∧ R x y := by
  induction h generalizing k with
  | nil => simp at hy
  | cons a _ ih => cases k with
    | zero => simp at hy; subst hy; exact ⟨_, by simp, a⟩
    | succ k => simp at hy; simpa using ih hy
theorem All2.mem {α β : Type} {R : α → β → Prop} {l : List α} {m : List β} (h : All2 R l m) {y : β} (hy : y ∈ m) : ∃ x ∈ l, R x y := by
  obtain ⟨k, hk⟩ := List.mem_iff_getElem?.1 hy
  obtain ⟨x, hx, r⟩ := h.get hk
  exact ⟨x, List.mem_of_getElem? hx, r⟩
theorem All2.map {α : Type} {f : α → Option α} {R : α → α → Prop} {l m : List α} (hf : ∀ x ∈ l, ∀ y, f x = some y → R x y) (h : mapOpt f l = some m) : All2 R l m := by
  induction l generalizing m with
  | nil => simp at h; subst h; exact .nil
  | cons x l ih =>
    rw [mapOpt_cons] at h
    replace h := bnd_eq_some.1 h; obtain ⟨y, hy, h⟩ := h
    replace h := bnd_eq_some.1 h; obtain ⟨t, ht, h⟩ := h
    simp at h; subst h
    exact .cons (hf x (by simp) y hy) (ih (fun z hz => hf z (by simp [hz])) ht)

/-- v' stands, behind the cut, for whatever v stands for. -/
structure Fz (hp : Array Obj) (μ : Mu) (n : Nat) (v v' : T) : Prop where
  rel : ∀ c, RelV hp μ v c → RelV hp (cutMu n μ) v' c
  scalar : v'.scalar = v.scalar
  cells : All2 (fun x x' => (∀ c, RelV hp μ x c → RelV hp (cutMu n μ) x' c) ∧ x'.scalar = x.scalar ∧ Closed x') v.cells v'.cells
  closed : Closed v'

theorem All2.flat {R : T → T → Prop} {es es' : List T} (h : All2 (fun x x' => All2 R x.cells x'.cells) es es') : All2 R (TI.flat es) (TI.flat es') := by
  induction h with
  | nil => exact .nil
  | cons a _ ih => simpa [TI.flat] using All2.append a ih

section
variable {cx : Ctx} {base : Nat} {hp : Array Obj} {μ : Mu} {h : H} {n : Nat}

theorem Fz.same {v : T} (hl : Closed v) (hc : v.cells = [v]) : Fz hp μ n v v :=
  ⟨fun c hc => hc.cut (hl.low n), rfl, by rw [hc]; exact .cons ⟨fun c hc => hc.cut (hl.low n), rfl, hl⟩ .nil, hl⟩

theorem closed_of_cells {v : T} (hv : ∀ x ∈ v.cells, Closed x) : Closed v := by
  cases v with
  | agg cs => exact .agg cs hv
  | _ => exact hv _ (by simp [T.cells])

theorem relL_of_all {vs : List T} (hv : ∀ x ∈ vs, ∃ c, RelV hp μ x c) : ∃ cs, RelL hp μ vs cs := by
  induction vs with
  | nil => exact ⟨[], RelL.nil⟩
  | cons v vs ih =>
    obtain ⟨c, hc⟩ := hv v (by simp)
    obtain ⟨cs, hcs⟩ := ih fun x hx => hv x (by simp [hx])
    exact ⟨c :: cs, RelL.cons hc hcs⟩

theorem rel_of_cells {v : T} (hv : ∀ x ∈ v.cells, ∃ c, RelV hp μ x c) (hs : ∀ x ∈ v.cells, x.scalar = true) : ∃ c, RelV hp μ v c := by
  cases v with
  | agg cs =>
    obtain ⟨l, hl⟩ := relL_of_all hv
    exact ⟨.agg l.toArray, RelV.aggOf (by have hl : RelL hp μ cs l := hl; simpa using hl) hs⟩
  | _ => exact hv _ (by simp [T.cells])

theorem RelL.mem {vs : List T} {cs : List Value} (h : RelL hp μ vs cs) {v : T} (hv : v ∈ vs) : ∃ c, RelV hp μ v c := by
  obtain ⟨k, hk⟩ := List.mem_iff_getElem?.1 hv
  exact ⟨_, h.2 k v hk⟩

theorem freeze_sound (s : St cx base hp μ h) : ∀ (d : Nat) (v v' : T), (∃ c, RelV hp μ v c) → freeze h n d v = some v' → Fz hp μ n v v' := by
  intro d
  induction d with
  | zero => intro v v' _ hh; simp [freeze] at hh
  | succ d ih =>
    intro v v' hex hh
    cases v with
    | undef => exact absurd hh (by show ¬ (none = some v'); simp)
    | ptr => exact absurd hh (by show ¬ (none = some v'); simp)
    | tptr => exact absurd hh (by show ¬ (none = some v'); simp)
    | func => exact absurd hh (by show ¬ (none = some v'); simp)
    | iface => exact absurd hh (by show ¬ (none = some v'); simp)
    | iter => exact absurd hh (by show ¬ (none = some v'); simp)
    | map => exact absurd hh (by show ¬ (none = some v'); simp)
    | nilm => exact absurd hh (by show ¬ (none = some v'); simp)
    | tuple => exact absurd hh (by show ¬ (none = some v'); simp)
    | bool b => have hh : some (T.bool b) = some v' := hh; simp only [Option.some.injEq] at hh; subst hh; exact Fz.same (.bool b) rfl
    | int k m => have hh : some (T.int k m) = some v' := hh; simp only [Option.some.injEq] at hh; subst hh; exact Fz.same (.int k m) rfl
    | str b => have hh : some (T.str b) = some v' := hh; simp only [Option.some.injEq] at hh; subst hh; exact Fz.same (.str b) rfl
    | nilp => have hh : some (T.nilp) = some v' := hh; simp only [Option.some.injEq] at hh; subst hh; exact Fz.same .nilp rfl
    | ewild => have hh : some (T.ewild) = some v' := hh; simp only [Option.some.injEq] at hh; subst hh; exact Fz.same .ewild rfl
    | nilf => have hh : some (T.nilf) = some v' := hh; simp only [Option.some.injEq] at hh; subst hh; exact Fz.same .nilf rfl
    | nili => have hh : some (T.nili) = some v' := hh; simp only [Option.some.injEq] at hh; subst hh; exact Fz.same .nili rfl
    | tree es full =>
      have hh : some (T.tree es full) = some v' := hh
      simp only [Option.some.injEq] at hh; subst hh
      obtain ⟨c, hc⟩ := hex
      refine Fz.same ?_ rfl
      cases hc with
      | tree0 => exact .tree _ _ fun v hv => by simp at hv
      | tree e es full blk off cap sz arr t fz hn hh hl hf hu hs hc hr =>
        exact .tree _ _ fun v hv => closed_of_cells fun x hx => (hc x (List.mem_flatMap.2 ⟨v, hv, hx⟩)).2
    | agg cs =>
      have hh : (bnd (mapOpt (freeze h n d) cs) fun r => some (T.agg r)) = some v' := hh
      replace hh := bnd_eq_some.1 hh; obtain ⟨r, hr, hh⟩ := hh
      simp only [Option.some.injEq] at hh; subst hh
      obtain ⟨c, hc⟩ := hex
      obtain ⟨ca, rfl, hL, hsc⟩ := hc.inv_agg
      have h2 : All2 (Fz hp μ n) cs r := All2.map (fun x hx y hy => ih x y (hL.mem hx) hy) hr
      have hcl : ∀ v ∈ r, Closed v := fun v hv => by obtain ⟨x, _, hx⟩ := h2.mem hv; exact hx.closed
      have hsr : ∀ v ∈ r, v.scalar = true := fun v hv => by obtain ⟨x, hm, hx⟩ := h2.mem hv; rw [hx.scalar]; exact hsc x hm
      refine ⟨fun c hc => ?_, rfl, ?_, .agg r hcl⟩
      · obtain ⟨ca, rfl, hL, _⟩ := hc.inv_agg
        refine RelV.aggOf ⟨by rw [← h2.length]; exact hL.1, fun k v hk => ?_⟩ hsr
        obtain ⟨x, hx, hf⟩ := h2.get hk
        exact hf.rel _ (hL.2 k x hx)
      · show All2 _ cs r
        exact h2.imp fun a b hab => ⟨hab.rel, hab.scalar, hab.closed⟩
    | arr b ep o l full =>
      have hh : chk (Nat.ble n b) (bnd (h.get b) fun x => @Box.rec (fun _ => Option T) (fun _ ep' _ exact it elems =>
        chk (Nat.beq ep' ep) (@Bool.rec (fun _ => Option T) (bnd (bnd (dropN o elems) fun r => takeN l r) fun es => bnd (mapOpt (freeze h n d) es) fun es' =>
          @List.rec T (fun _ => Option T) (@List.rec T (fun _ => Option T) (@Bool.rec (fun _ => Option T) (some .ewild) (some (.tree [] false)) exact) (fun _ _ _ => some .ewild) elems) (fun _ _ _ => some (.tree es' full)) es') none it)) x) = some v' := hh
      obtain ⟨hnb, hh⟩ := chk_eq_some.1 hh
      have hnb : n ≤ b := Nat.le_of_ble_eq_true hnb
      replace hh := bnd_eq_some.1 hh; obtain ⟨bx, hbx, hh⟩ := hh
      obtain ⟨sz, ep', ver, ex, it, elems⟩ := bx
      simp only at hh
      obtain ⟨hep, hh⟩ := chk_eq_some.1 hh
      have hep : ep' = ep := Nat.eq_of_beq_eq_true hep
      cases it with
      | true => simp at hh
      | false =>
        replace hh := bnd_eq_some.1 hh; obtain ⟨es, hes, hh⟩ := hh
        replace hh := bnd_eq_some.1 hh; obtain ⟨es', hes', hq⟩ := hh
        obtain ⟨hlen, hes⟩ : o + l ≤ elems.length ∧ es = (elems.drop o).take l := by
          replace hes := bnd_eq_some.1 hes; obtain ⟨r0, h1, h2⟩ := hes
          rw [dropN_eq] at h1
          split at h1
          · simp only [Option.some.injEq] at h1; subst h1
            rw [takeN_eq] at h2
            split at h2
            · simp only [Option.some.injEq] at h2
              rename_i hlt hle
              simp only [List.length_drop] at hle
              exact ⟨by omega, h2.symm⟩
            · simp at h2
          · simp at h1
        have key : ∀ c, RelV hp μ (.arr b ep o l full) c → RelV hp (cutMu n μ) v' c ∧ Closed v' ∧ v'.cells = [v'] ∧ v'.scalar = true := by
          intro c hc
          obtain ⟨L, ad, cp, rfl, hb, he, hl, hrest⟩ := hc.inv_arr
          obtain ⟨x', hx1, hx2⟩ := s.box b L hb
          rw [hbx] at hx1
          simp only [Option.some.injEq] at hx1; subst hx1
          have hLe := hx2.ep
          simp only at hLe
          obtain ⟨hfull, hnf, had⟩ := hrest (by omega)
          have p := hx2.plain rfl
          simp only at p
          obtain ⟨arr, t, h1, h2, h3⟩ := p.row
          have hesz : ∀ v ∈ es, v.cells.length = L.sz := fun v hv => p.size v (List.mem_of_mem_drop (List.mem_of_mem_take (hes ▸ hv)))
          have hrel : ∀ v ∈ flat elems, ∃ c, RelV hp μ v c := fun v hv => h3.mem hv
          have hmem : ∀ v ∈ es, v ∈ elems := fun v hv => List.mem_of_mem_drop (List.mem_of_mem_take (hes ▸ hv))
          have h4 : All2 (Fz hp μ n) es es' := All2.map (fun x hx y hy => ih x y (rel_of_cells (fun z hz => hrel z (List.mem_flatMap.2 ⟨x, hmem x hx, hz⟩)) fun z hz => p.scalar z (List.mem_flatMap.2 ⟨x, hmem x hx, hz⟩)) hy) hes'
          have hlen' : es'.length = l := by rw [← h4.length, hes]; simp; omega
          have hcap : ex = true → L.cap = elems.length := p.exact_
          cases es' with
          | nil =>
            have hl0 : l = 0 := by simpa using hlen'.symm
            subst hl0
            have he : v' = .ewild ∨ (elems = [] ∧ ex = true ∧ v' = .tree [] false) := by
              cases elems with
              | cons z zs => have hh : some T.ewild = some v' := hq; simp only [Option.some.injEq] at hh; exact .inl hh.symm
              | nil =>
                cases ex with
                | false => have hh : some T.ewild = some v' := hq; simp only [Option.some.injEq] at hh; exact .inl hh.symm
                | true => have hh : some (T.tree [] false) = some v' := hq; simp only [Option.some.injEq] at hh; exact .inr ⟨rfl, rfl, hh.symm⟩
            rcases he with rfl | ⟨rfl, rfl, rfl⟩
            · exact ⟨.ewild _ _, .ewild, rfl, rfl⟩
            · have hc0 : L.cap = 0 := by simpa using hcap rfl
              have : cp = 0 := by
                cases full with
                | false => have := hnf rfl; omega
                | true => exact hfull rfl
              subst this
              exact ⟨.tree0 _ _, .tree _ _ fun v hv => by simp at hv, rfl, rfl⟩
          | cons y ys =>
            have hh : some (T.tree (y :: ys) full) = some v' := hq
            simp only [Option.some.injEq] at hh; subst hh
            simp only [List.length_cons] at hlen'
            have hcl : ∀ v ∈ y :: ys, Closed v := fun v hv => by obtain ⟨x, _, hx⟩ := h4.mem hv; exact hx.closed
            refine ⟨?_, .tree _ _ hcl, rfl, rfl⟩
            rw [had (by omega), ← hlen']
            have hfl := All2.flat (h4.imp fun a b hab => hab.cells)
            have hflen : (flat (y :: ys)).length = l * L.sz := by rw [← hfl.length, flat_length hesz, hes]; congr 1; simp; omega
            have hfe : flat es = ((flat elems).drop (o * L.sz)).take (l * L.sz) := by rw [hes]; exact flat_cut p.size o l
            have hfel : (flat elems).length = elems.length * L.sz := flat_length p.size
            have hbound : o * L.sz + l * L.sz ≤ elems.length * L.sz := by rw [← Nat.add_mul]; exact Nat.mul_le_mul_right _ hlen
            have hbound2 : elems.length * L.sz ≤ L.cap * L.sz := Nat.mul_le_mul_right _ p.room
            refine .tree y ys full L.blk (o * L.sz) cp L.sz arr t (0, 0) ?_ h1 (by omega) (fun k => by rw [hfull k]; omega) ?_ ?_ ?_ ?_
            · rintro (⟨b', L', hb', hblk⟩ | hr)
              · obtain ⟨q1, q2⟩ := cutMu_some hb'
                have := s.inj b' b L' L q2 hb hblk
                omega
              · exact s.apart b L hb hr
            · intro v hv
              obtain ⟨x, hx, hxv⟩ := h4.mem hv
              rw [← hxv.cells.length]
              exact hesz x hx
            · rw [hflen, h2]; omega
            · intro v hv
              obtain ⟨x, hx, hx1, hx2, hx3⟩ := hfl.mem hv
              refine ⟨?_, hx3⟩
              rw [hx2]
              rw [hfe] at hx
              exact p.scalar x (List.mem_of_mem_drop (List.mem_of_mem_take hx))
            · intro k v hv
              obtain ⟨x, hx, hx1, _⟩ := hfl.get hv
              refine hx1 _ ?_
              rw [hfe, List.getElem?_take] at hx
              split at hx
              · rename_i hk
                rw [List.getElem?_drop] at hx
                have := h3.2 _ x hx
                have hlt : o * L.sz + k < (flat elems).length := by rw [hfel]; omega
                have hlt2 : o * L.sz + k < arr.size := by rw [h2]; omega
                simpa [List.getD, List.getElem?_take, hlt, Array.getD_eq_getD_getElem?, hlt2] using this
              · simp at hx
        obtain ⟨c0, hc0⟩ := hex
        obtain ⟨_, k2, k3, k4⟩ := key c0 hc0
        exact ⟨fun c hc => (key c hc).1, by rw [k4]; rfl, by rw [k3]; exact .cons ⟨fun c hc => (key c hc).1, by rw [k4]; rfl, k2⟩ .nil, k2⟩
end
end Go.TI
