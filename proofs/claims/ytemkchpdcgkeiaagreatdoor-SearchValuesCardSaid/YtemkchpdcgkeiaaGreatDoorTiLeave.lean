/- The end of a call: what it hands back is frozen, its own boxes are forgotten. -/
import Derived.Test.YtemkchpdcgkeiaaGreatDoorTiCut
namespace Go.TI
set_option linter.unusedSimpArgs false
set_option linter.unusedVariables false
set_option linter.unusedVariables false
section
variable {cx : Ctx} {base : Nat} {hp : Array Obj} {μ : Mu} {h : H} {n : Nat}

theorem freezeCell_sound (s : St cx base hp μ h) {v v' : T} (hex : ∃ c, RelV hp μ v c) (hh : freezeCell h n v = some v') :
    (∀ c, RelV hp μ v c → RelV hp (cutMu n μ) v' c) ∧ v'.scalar = v.scalar := by
  have other : freeze h n 12 v = some v' → (∀ c, RelV hp μ v c → RelV hp (cutMu n μ) v' c) ∧ v'.scalar = v.scalar := fun hf =>
    let f := freeze_sound s 12 v v' hex hf
    ⟨f.rel, f.scalar⟩
  cases v with
  | undef =>
    have hh : some T.undef = some v' := hh
    simp only [Option.some.injEq] at hh; subst hh
    exact ⟨fun c hc => hc.cut .undef, rfl⟩
  | ptr b ep i j =>
    have hh : @Bool.rec (fun _ => Option T) (some (.ptr b ep i j)) none (Nat.ble n b) = some v' := hh
    cases hb : Nat.ble n b with
    | true => rw [hb] at hh; simp at hh
    | false =>
      rw [hb] at hh
      have hh : some (T.ptr b ep i j) = some v' := hh
      simp only [Option.some.injEq] at hh; subst hh
      have : b < n := by
        rcases Nat.lt_or_ge b n with x | x
        · exact x
        · rw [Nat.ble_eq_true_of_le x] at hb; simp at hb
      exact ⟨fun c hc => hc.cut (.ptr _ _ _ _ this), rfl⟩
  | map b =>
    have hh : @Bool.rec (fun _ => Option T) (some (.map b)) none (Nat.ble n b) = some v' := hh
    cases hb : Nat.ble n b with
    | true => rw [hb] at hh; simp at hh
    | false =>
      rw [hb] at hh
      have hh : some (T.map b) = some v' := hh
      simp only [Option.some.injEq] at hh; subst hh
      have : b < n := by
        rcases Nat.lt_or_ge b n with x | x
        · exact x
        · rw [Nat.ble_eq_true_of_le x] at hb; simp at hb
      exact ⟨fun c hc => hc.cut (.map _ this), rfl⟩
  | arr b ep o l full =>
    have hh : @Bool.rec (fun _ => Option T) (some (.arr b ep o l full)) (freeze h n 12 (.arr b ep o l full)) (Nat.ble n b) = some v' := hh
    cases hb : Nat.ble n b with
    | true => rw [hb] at hh; exact other hh
    | false =>
      rw [hb] at hh
      have hh : some (T.arr b ep o l full) = some v' := hh
      simp only [Option.some.injEq] at hh; subst hh
      have : b < n := by
        rcases Nat.lt_or_ge b n with x | x
        · exact x
        · rw [Nat.ble_eq_true_of_le x] at hb; simp at hb
      exact ⟨fun c hc => hc.cut (.arr _ _ _ _ _ this), rfl⟩
  | _ => exact other hh

theorem mapCell_sound (s : St cx base hp μ h) {vs r : List T} {cs : List Value} (hL : RelL hp μ vs cs) (hh : mapOpt (freezeCell h n) vs = some r) :
    RelL hp (cutMu n μ) r cs ∧ ∀ x ∈ r, ∃ y ∈ vs, x.scalar = y.scalar := by
  have h2 : All2 (fun v v' => (∀ c, RelV hp μ v c → RelV hp (cutMu n μ) v' c) ∧ v'.scalar = v.scalar) vs r := All2.map (fun x hx y hy => freezeCell_sound s (hL.mem hx) hy) hh
  refine ⟨⟨by rw [← h2.length]; exact hL.1, fun k v hk => ?_⟩, fun x hx => ?_⟩
  · obtain ⟨x, hx, hf⟩ := h2.get hk
    exact hf.1 _ (hL.2 k x hx)
  · obtain ⟨y, hy, hf⟩ := h2.mem hx
    exact ⟨y, hy, hf.2⟩

theorem freezeVal_sound (s : St cx base hp μ h) {v v' : T} {c : Value} (hc : RelV hp μ v c) (hh : freezeVal h n v = some v') : RelV hp (cutMu n μ) v' c := by
  cases v with
  | agg cs =>
    have hh : (bnd (mapOpt (freezeCell h n) cs) fun r => some (T.agg r)) = some v' := hh
    replace hh := bnd_eq_some.1 hh; obtain ⟨r, hr, hh⟩ := hh
    simp only [Option.some.injEq] at hh; subst hh
    obtain ⟨ca, rfl, hL, hsc⟩ := hc.inv_agg
    obtain ⟨h1, h2⟩ := mapCell_sound s hL hr
    exact RelV.aggOf h1 fun x hx => by obtain ⟨y, hy, he⟩ := h2 x hx; rw [he]; exact hsc y hy
  | _ => exact (freezeCell_sound s ⟨c, hc⟩ hh).1 c hc

theorem freezeTop_sound (s : St cx base hp μ h) {v v' : T} {c : Value} (hc : RelV hp μ v c) (hh : freezeTop h n v = some v') : RelV hp (cutMu n μ) v' c := by
  cases v with
  | tuple vs =>
    have hh : (bnd (mapOpt (freezeVal h n) vs) fun r => some (T.tuple r)) = some v' := hh
    replace hh := bnd_eq_some.1 hh; obtain ⟨r, hr, hh⟩ := hh
    simp only [Option.some.injEq] at hh; subst hh
    obtain ⟨ca, rfl, hL⟩ := hc.inv_tuple
    have h2 : All2 (fun v v' => ∀ c, RelV hp μ v c → RelV hp (cutMu n μ) v' c) vs r := All2.map (fun x hx y hy c hc => freezeVal_sound s hc hy) hr
    refine .tuple r ca (by rw [← h2.length]; simpa using hL.1.symm) fun k v hk => ?_
    obtain ⟨x, hx, hf⟩ := h2.get hk
    have := hf _ (hL.2 k x hx)
    simpa [Array.getD_eq_getD_getElem?, List.getD] using this
  | _ => exact freezeVal_sound s hc hh

theorem belowCell_low {v : T} {c : Value} (hc : RelV hp μ v c) (hb : belowCell n v = true) : Low n v := by
  cases v with
  | ptr b ep i j => exact .ptr _ _ _ _ (by have hb : Nat.blt b n = true := hb; rwa [Nat.blt_eq] at hb)
  | arr b ep o l full => exact .arr _ _ _ _ _ (by have hb : Nat.blt b n = true := hb; rwa [Nat.blt_eq] at hb)
  | map b => exact .map _ (by have hb : Nat.blt b n = true := hb; rwa [Nat.blt_eq] at hb)
  | tptr cs =>
    obtain ⟨_, _, _, _, _, _, _, _, _, hsh, _⟩ := hc.inv_tptr
    exact .tptr _ fun v hv => (hsh v hv).2.low n
  | tree es full =>
    refine .tree _ _ fun v hv => ?_
    cases es with
    | nil => simp [flat] at hv
    | cons x es => obtain ⟨_, _, _, _, _, _, _, _, _, _, _, _, _, _, hsh, _⟩ := hc.inv_tree; exact (hsh v hv).2.low n
  | undef => simp [belowCell] at hb
  | func => simp [belowCell] at hb
  | iface => simp [belowCell] at hb
  | iter => simp [belowCell] at hb
  | agg => simp [belowCell] at hb
  | tuple => simp [belowCell] at hb
  | _ => constructor

theorem allB_all {α : Type} {f : α → Bool} {l : List α} (hh : allB f l = true) : ∀ x ∈ l, f x = true := by
  induction l with
  | nil => intro x hx; simp at hx
  | cons y l ih =>
    have hh : @Bool.rec (fun _ => Bool) false (allB f l) (f y) = true := hh
    cases hy : f y with
    | false => rw [hy] at hh; simp at hh
    | true =>
      rw [hy] at hh
      intro x hx
      rcases List.mem_cons.1 hx with rfl | hx
      · exact hy
      · exact ih hh x hx

theorem below_low {v : T} (hb : below n v = true) (hc : ∀ x ∈ v.cells, ∃ c, RelV hp μ x c) : ∀ x ∈ v.cells, Low n x := by
  cases v with
  | agg cs =>
    intro x hx
    obtain ⟨c, hc⟩ := hc x hx
    exact belowCell_low hc (allB_all (show allB (belowCell n) cs = true from hb) x hx)
  | func f cs =>
    intro x hx
    obtain ⟨c, hc⟩ := hc x hx
    simp [T.cells] at hx; subst hx
    obtain ⟨ca, rfl, hL⟩ := hc.inv_func
    exact .func _ _ fun y hy => by obtain ⟨d, hd⟩ := hL.mem hy; exact belowCell_low hd (allB_all (show allB (belowCell n) cs = true from hb) y hy)
  | tuple cs =>
    intro x hx
    obtain ⟨c, hc⟩ := hc x hx
    simp [T.cells] at hx; subst hx
    obtain ⟨ca, rfl, hL⟩ := hc.inv_tuple
    exact .tuple _ fun y hy => by obtain ⟨d, hd⟩ := hL.mem hy; exact belowCell_low hd (allB_all (show allB (belowCell n) cs = true from hb) y hy)
  | _ =>
    intro x hx
    obtain ⟨c, hc⟩ := hc x hx
    simp [T.cells] at hx; subst hx
    exact belowCell_low hc hb

theorem boxesBelow_all {k : Nat} {l : List Box} (hh : boxesBelow n k l = true) : ∀ i x, i < k → l[i]? = some x → ∀ v ∈ x.elems, below n v = true := by
  induction k generalizing l with
  | zero => intro i x hi; omega
  | succ k ih =>
    intro i x hi hx
    cases l with
    | nil => simp at hx
    | cons y r =>
      have hh : @Bool.rec (fun _ => Bool) false (boxesBelow n k r) (allB (below n) y.elems) = true := hh
      cases hy : allB (below n) y.elems with
      | false => rw [hy] at hh; simp at hh
      | true =>
        rw [hy] at hh
        cases i with
        | zero => simp at hx; subst hx; exact allB_all hy
        | succ i => exact ih hh i x (by omega) (by simpa using hx)

/-- The state with the boxes from n on forgotten. -/
theorem St.cut (s : St cx base hp μ h) (hn : n ≤ h.size) {low : Nat} (hl : ∀ b L x, b < n → μ b = some L → h.get b = some x → ∀ v ∈ flat x.elems, Low n v) :
    St cx base hp (cutMu n μ) ⟨n, low, h.boxes.drop (h.size - n)⟩ := by
  have hget : ∀ b, b < n → (⟨n, low, h.boxes.drop (h.size - n)⟩ : H).get b = h.get b := by
    intro b hb
    rw [H.get_eq, H.get_eq]
    have h1 : b < h.size := by omega
    simp only [hb, h1, if_true, List.getElem?_drop]
    congr 1; omega
  refine ⟨?_, s.fit, ?_, ?_, ?_, fun b L hb => s.apart b L (cutMu_some hb).2, s.resLt, ?_⟩
  · simp only [List.length_drop, s.wf]; omega
  · intro b L hb
    obtain ⟨q1, q2⟩ := cutMu_some hb
    obtain ⟨x, hx, hok⟩ := s.box b L q2
    exact ⟨x, by rw [hget b q1]; exact hx, hok.cut (hl b L x q1 q2 hx)⟩
  · intro b b' L L' h1 h2 he
    exact s.inj b b' L L' (cutMu_some h1).2 (cutMu_some h2).2 he
  · intro b L hb; exact s.low b L (cutMu_some hb).2
  · intro g cs hg
    have := s.glob g cs hg
    refine this.cut ?_
    obtain ⟨_, _, _, _, _, _, _, _, _, hsh, _⟩ := this.inv_tptr
    exact .tptr _ fun v hv => (hsh v hv).2.low n

theorem St.relow (s : St cx base hp μ h) (low : Nat) : St cx base hp μ ⟨h.size, low, h.boxes⟩ := by
  refine ⟨s.wf, s.fit, fun b L hb => ?_, s.inj, s.low, s.apart, s.resLt, s.glob⟩
  obtain ⟨x, hx, hok⟩ := s.box b L hb
  exact ⟨x, by rw [H.get_eq] at hx ⊢; exact hx, hok⟩

/-- What stands behind the end of a call that began at the heap h0. -/
def Left (cx : Ctx) (base : Nat) (w w' : World) (μ : Mu) (h0 : H) (r : T) (h' : H) (c : Value) : Prop :=
  ∃ μ', RelV w'.heap μ' r c ∧ St cx base w'.heap μ' h' ∧ ExtW w μ w' μ' ∧ Dom μ μ' h0.size h'.size

theorem H.get_relow (h : H) (low b : Nat) : (⟨h.size, low, h.boxes⟩ : H).get b = h.get b := by rw [H.get_eq, H.get_eq]

theorem grow_relow {n low0 low : Nat} {boxes : List Box} (g : Grow ⟨n, n, boxes⟩ h) (hl : low ≤ low0) (hk : ∀ b, b < n → b < low → b < h.low) : Grow ⟨n, low0, boxes⟩ ⟨h.size, low, h.boxes⟩ := by
  have e0 : ∀ b, (⟨n, low0, boxes⟩ : H).get b = (⟨n, n, boxes⟩ : H).get b := fun b => by rw [H.get_eq, H.get_eq]
  refine ⟨g.wf, g.size, hl, fun b hb hlb => ?_, fun b x hx => ?_⟩
  · rw [H.get_relow, e0]
    exact g.keep b hb (hk b hb hlb)
  · rw [e0] at hx
    obtain ⟨x', h1, h2⟩ := g.ver b x hx
    exact ⟨x', by rw [H.get_relow]; exact h1, h2⟩

theorem leaveKeep_eq {low0 : Nat} {r r' : T} {h' : H} (hh : leaveKeep low0 r h = some (r', h')) : r' = r ∧ h' = ⟨h.size, if h.low < low0 then h.low else low0, h.boxes⟩ := by
  obtain ⟨size, low, boxes⟩ := h
  have hh : @Bool.rec (fun _ => Option (T × H)) (some (r, ⟨size, low0, boxes⟩)) (some (r, ⟨size, low, boxes⟩)) (Nat.blt low low0) = some (r', h') := hh
  cases hb : Nat.blt low low0 with
  | true =>
    rw [hb] at hh
    simp only [Option.some.injEq, Prod.mk.injEq] at hh
    have : low < low0 := by rwa [Nat.blt_eq] at hb
    exact ⟨hh.1.symm, by rw [← hh.2]; simp [this]⟩
  | false =>
    rw [hb] at hh
    simp only [Option.some.injEq, Prod.mk.injEq] at hh
    have : ¬ low < low0 := fun k => by rw [← Nat.blt_eq, hb] at k; simp at k
    exact ⟨hh.1.symm, by rw [← hh.2]; simp [this]⟩

variable {w w' : World} {μ0 : Mu} {low0 : Nat} {boxes0 : List Box}

theorem keep_sound {r r' : T} {c : Value} {h' : H} (s : St cx base w'.heap μ h) (g : Grow ⟨n, n, boxes0⟩ h) (x : ExtW w μ0 w' μ) (d : Dom μ0 μ n h.size) (hc : RelV w'.heap μ r c)
    (hh : leaveKeep low0 r h = some (r', h')) : Left cx base w w' μ0 ⟨n, low0, boxes0⟩ r' h' c ∧ Grow ⟨n, low0, boxes0⟩ h' := by
  obtain ⟨rfl, rfl⟩ := leaveKeep_eq hh
  exact ⟨⟨μ, hc, s.relow _, x, d⟩, grow_relow g (by split <;> omega) (fun b _ hb => by split at hb <;> omega)⟩

theorem leave_sound {keep : Bool} {r r' : T} {c : Value} {h' : H} (s0 : St cx base w.heap μ0 ⟨n, low0, boxes0⟩) (s : St cx base w'.heap μ h) (g : Grow ⟨n, n, boxes0⟩ h) (x : ExtW w μ0 w' μ) (d : Dom μ0 μ n h.size)
    (hc : RelV w'.heap μ r c) (hh : leave keep n low0 r h = some (r', h')) : Left cx base w w' μ0 ⟨n, low0, boxes0⟩ r' h' c ∧ Grow ⟨n, low0, boxes0⟩ h' := by
  cases keep with
  | true => exact keep_sound s g x d hc hh
  | false =>
    have hh : @Option.rec T (fun _ => Option (T × H)) (leaveKeep low0 r h) (fun r' => leaveCut n low0 r r' h) (freezeTop h n r) = some (r', h') := hh
    cases hf : freezeTop h n r with
    | none => rw [hf] at hh; exact keep_sound s g x d hc hh
    | some q =>
      rw [hf] at hh
      have hq := freezeTop_sound s hc hf
      have hn : n ≤ h.size := g.size
      have hd0 : ∀ b L, μ0 b = some L → b < n := fun b L hb => s0.get_lt hb
      -- the cut itself
      have cut : ∀ low', low' ≤ low0 → (∀ b, b < n → b < low' → b < h.low) → (∀ b L z, b < n → μ b = some L → h.get b = some z → ∀ v ∈ flat z.elems, Low n v) →
          Left cx base w w' μ0 ⟨n, low0, boxes0⟩ q ⟨n, low', h.boxes.drop (h.size - n)⟩ c ∧ Grow ⟨n, low0, boxes0⟩ ⟨n, low', h.boxes.drop (h.size - n)⟩ := by
        intro low' hlow hlk hl
        have hcut := St.cut (low := low') s hn hl
        refine ⟨⟨cutMu n μ, hq, hcut, ⟨⟨x.ext.size, fun i hi hni => ?_, fun b L hb => ?_, x.ext.res, x.ext.kept⟩, x.os, x.tape, x.output⟩, Nat.le_refl _, fun b hb => ?_, fun b k1 k2 => absurd k1 (by show ¬ n ≤ b; have k2 : b < n := k2; omega)⟩, ?_⟩
        · obtain ⟨e1, e2⟩ := x.ext.old i hi hni
          exact ⟨e1, not_cutMu e2⟩
        · rw [cutMu_lt (hd0 b L hb)]; exact x.ext.mu b L hb
        · left
          obtain ⟨L, hL⟩ := Option.ne_none_iff_exists'.1 hb
          obtain ⟨q1, q2⟩ := cutMu_some hL
          rcases d.2.1 b (by rw [q2]; simp) with k | k
          · exact k
          · omega
        · have g' := grow_relow (low := low') g hlow hlk
          have hget : ∀ b, b < n → (⟨n, low', h.boxes.drop (h.size - n)⟩ : H).get b = h.get b := by
            intro b hb
            rw [H.get_eq, H.get_eq]
            have h1 : b < h.size := by omega
            simp only [hb, h1, if_true, List.getElem?_drop]
            congr 1; omega
          refine ⟨hcut.wf, Nat.le_refl _, g'.low, fun b hb hlb => ?_, fun b y hy => ?_⟩
          · rw [hget b hb]
            have := g'.keep b hb hlb
            rwa [H.get_relow] at this
          · rw [hget b (H.get_lt hy)]
            have := g'.ver b y hy
            simpa only [H.get_relow] using this
      -- boxes that are as they were
      have same : ∀ b L z, b < n → b < h.low → μ b = some L → h.get b = some z → ∀ v ∈ flat z.elems, Low n v := by
        intro b L z hb hlow hL hz
        have hk := g.keep b hb hlow
        rw [hz] at hk
        rcases d.2.1 b (by rw [hL]; simp) with k | k
        · obtain ⟨L0, hL0⟩ := Option.ne_none_iff_exists'.1 k
          obtain ⟨z0, hz0, hok⟩ := s0.box b L0 hL0
          have e0 : (⟨n, low0, boxes0⟩ : H).get b = (⟨n, n, boxes0⟩ : H).get b := by rw [H.get_eq, H.get_eq]
          rw [e0, ← hk] at hz0
          simp only [Option.some.injEq] at hz0; subst hz0
          exact hok.low hd0
        · omega
      obtain ⟨size, low, boxes⟩ := h
      have hh : (bnd (dropN (Nat.sub size n) boxes) fun old =>
          @Bool.rec (fun _ => Option (T × H))
            (@Bool.rec (fun _ => Option (T × H)) (leaveKeep low0 r ⟨size, low, boxes⟩)
              (@Bool.rec (fun _ => Option (T × H)) (some (q, ⟨n, low0, old⟩)) (some (q, ⟨n, low, old⟩)) (Nat.blt low low0)) (boxesBelow n (Nat.sub n low) old))
            (some (q, ⟨n, low0, old⟩)) (Nat.ble n low)) = some (r', h') := hh
      replace hh := bnd_eq_some.1 hh; obtain ⟨old, hold, hh⟩ := hh
      rw [dropN_eq] at hold
      have hold : old = boxes.drop (size - n) := by
        split at hold
        · simp only [Option.some.injEq] at hold; exact hold.symm
        · simp at hold
      have hlown : low0 ≤ n ∨ n < low0 := by omega
      cases hb1 : Nat.ble n low with
      | true =>
        rw [hb1] at hh
        simp only [Option.some.injEq, Prod.mk.injEq] at hh
        obtain ⟨rfl, rfl⟩ := hh
        have hnl : n ≤ low := Nat.le_of_ble_eq_true hb1
        rw [hold]
        exact cut _ (Nat.le_refl _) (fun b hb _ => by show b < low; omega) fun b L z hb => same b L z hb (by show b < low; omega)
      | false =>
        rw [hb1] at hh
        have hnl : low < n := by
          rcases Nat.lt_or_ge low n with k | k
          · exact k
          · rw [Nat.ble_eq_true_of_le k] at hb1; simp at hb1
        cases hb2 : boxesBelow n (Nat.sub n low) old with
        | false => rw [hb2] at hh; exact keep_sound s g x d hc hh
        | true =>
          rw [hb2] at hh
          have all : ∀ b L z, b < n → μ b = some L → (⟨size, low, boxes⟩ : H).get b = some z → ∀ v ∈ flat z.elems, Low n v := by
            intro b L z hb hL hz
            by_cases hbl : b < low
            · exact same b L z hb hbl hL hz
            · obtain ⟨z', hz', hok⟩ := s.box b L hL
              rw [hz] at hz'
              simp only [Option.some.injEq] at hz'; subst hz'
              have hidx : old[n - 1 - b]? = some z := by
                rw [H.get_eq] at hz
                have hn : n ≤ size := hn
                have hbs : b < size := by omega
                simp only [hbs, if_true] at hz
                rw [hold, List.getElem?_drop, ← hz]
                congr 1; omega
              have hbel := boxesBelow_all hb2 (n - 1 - b) z (by show _ < n - low; omega) hidx
              intro v hv
              obtain ⟨el, hel, hve⟩ := List.mem_flatMap.1 hv
              cases hi : z.it with
              | true =>
                obtain ⟨_, ⟨st, pos, he, _⟩ | ⟨es, m1, m2, m3⟩⟩ := hok.iter hi
                · rw [he] at hel
                  simp at hel
                  rcases hel with rfl | rfl <;> (simp [T.cells] at hve; subst hve; constructor)
                · obtain ⟨j, hj⟩ := List.mem_iff_getElem?.1 hel
                  obtain ⟨k, u, me, rfl, g2, g3, g4, g5⟩ := m3 j el hj
                  have hb3 := hbel _ hel
                  have hb3 : allB (belowCell n) [k, u] = true := hb3
                  simp [T.cells] at hve
                  subst hve
                  refine .tuple _ fun y hy => ?_
                  have hby := allB_all hb3 y hy
                  simp at hy
                  rcases hy with rfl | rfl
                  · exact belowCell_low g4 hby
                  · exact belowCell_low g5 hby
              | false =>
                obtain ⟨arr, t, h1, h2, h3⟩ := (hok.plain hi).row
                exact below_low (hbel el hel) (fun y hy => h3.mem (List.mem_flatMap.2 ⟨el, hel, hy⟩)) v hve
          have : r' = q ∧ h' = ⟨n, if low < low0 then low else low0, old⟩ := by
            cases hb3 : Nat.blt low low0 with
            | true =>
              rw [hb3] at hh
              simp only [Option.some.injEq, Prod.mk.injEq] at hh
              have : low < low0 := by rwa [Nat.blt_eq] at hb3
              exact ⟨hh.1.symm, by rw [← hh.2]; simp [this]⟩
            | false =>
              rw [hb3] at hh
              simp only [Option.some.injEq, Prod.mk.injEq] at hh
              have : ¬ low < low0 := fun k => by rw [← Nat.blt_eq, hb3] at k; simp at k
              exact ⟨hh.1.symm, by rw [← hh.2]; simp [this]⟩
          obtain ⟨rfl, rfl⟩ := this
          rw [hold]
          exact cut _ (by split <;> omega) (fun b _ hb => by show b < low; split at hb <;> omega) all
end
end Go.TI
