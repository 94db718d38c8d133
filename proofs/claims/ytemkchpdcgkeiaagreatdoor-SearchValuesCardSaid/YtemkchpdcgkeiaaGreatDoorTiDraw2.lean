/- Regions that draw their order: the heap at any stage, the step. -/
import Derived.Test.YtemkchpdcgkeiaaGreatDoorTiDraw
namespace Go.TI
set_option linter.unusedSimpArgs false
set_option linter.unusedVariables false
set_option linter.unusedVariables false
set_option linter.unusedSectionVars false

/-! ### from one table of places to another -/

theorem RelV.conv {hp : Array Obj} {μ μ' : Mu} {v : T} {c : Value} (h : RelV hp μ v c) {n : Nat} (hl : Low n v) (hm : ∀ b L, b < n → μ b = some L → μ' b = some L)
    (hi : ∀ i, InMu μ' i → InMu μ i) : RelV hp μ' v c := by
  induction h with
  | undef => exact .undef
  | bool b => exact .bool b
  | int k m => exact .int k m
  | str s h => exact .str s h
  | nilp => exact .nilp
  | ptr b ep i j L a hb he ha => cases hl with | ptr _ _ _ _ h => exact .ptr b ep i j L a (hm b L h hb) he ha
  | tptr cells blk off arr t fz hn hh hs hc hr ih =>
    cases hl with | tptr _ h => exact .tptr cells blk off arr t fz (fun k => hn (hi _ k)) hh hs hc fun k v hk => ih k v hk (h v (List.mem_of_getElem? hk))
  | tree0 full a => exact .tree0 full a
  | tree e es full blk off cap sz arr t fz hn hh hl' hf hu hs hc hr ih =>
    cases hl with | tree _ _ h => exact .tree e es full blk off cap sz arr t fz (fun k => hn (hi _ k)) hh hl' hf hu hs hc fun k v hk => ih k v hk (h v (List.mem_of_getElem? hk))
  | ewild a cap => exact .ewild a cap
  | arr b ep o l full L a cp hb he hl' h' => cases hl with | arr _ _ _ _ _ h => exact .arr b ep o l full L a cp (hm b L h hb) he hl' h'
  | func f caps cs hs hr ih => cases hl with | func _ _ h => exact .func f caps cs hs fun k v hk => ih k v hk (h v (List.mem_of_getElem? hk))
  | nilf => exact .nilf
  | nili => exact .nili
  | iface t v c h ih => cases hl with | iface _ _ h => exact .iface t v c (ih h)
  | iter b L a hb h' => cases hl with | iter _ h => exact .iter b L a (hm b L h hb) h'
  | map b L i hb h' => cases hl with | map _ h => exact .map b L i (hm b L h hb) h'
  | nilm => exact .nilm
  | agg cells cs hs hc hr ih => cases hl with | agg _ h => exact .agg cells cs hs hc fun k v hk => ih k v hk (h v (List.mem_of_getElem? hk))
  | tuple vs cs hs hr ih => cases hl with | tuple _ h => exact .tuple vs cs hs fun k v hk => ih k v hk (h v (List.mem_of_getElem? hk))

theorem BoxOk.conv {hp : Array Obj} {μ μ' : Mu} {L : Loc} {x : Box} (h : BoxOk hp μ L x) {n : Nat} (hl : ∀ v ∈ flat x.elems, Low n v) (hm : ∀ b L, b < n → μ b = some L → μ' b = some L)
    (hi : ∀ i, InMu μ' i → InMu μ i) : BoxOk hp μ' L x := by
  refine ⟨h.ep, h.sz, fun k => ?_, fun k => ?_⟩
  · have p := h.plain k
    obtain ⟨arr, t, h1, h2, h3⟩ := p.row
    exact ⟨⟨arr, t, h1, h2, h3.1, fun k v hv => (h3.2 k v hv).conv (hl v (List.mem_of_getElem? hv)) hm hi⟩, p.room, p.exact_, p.size, p.scalar⟩
  · obtain ⟨h0, h1 | ⟨es, h1, h2, h3⟩⟩ := h.iter k
    · exact ⟨h0, .inl h1⟩
    · refine ⟨h0, .inr ⟨es, h1, h2, fun i y hy => ?_⟩⟩
      obtain ⟨k, v, me, g1, g2, g3, g4, g5⟩ := h3 i y hy
      have hlow := hl y (List.mem_flatMap.2 ⟨y, List.mem_of_getElem? hy, by rw [g1]; simp [T.cells]⟩)
      rw [g1] at hlow
      cases hlow with | tuple _ hlow => exact ⟨k, v, me, g1, g2, g3, g4.conv (hlow k (by simp)) hm hi, g5.conv (hlow v (by simp)) hm hi⟩

theorem Low.mono {n n' : Nat} {v : T} (h : Low n v) (hn : n ≤ n') : Low n' v := by
  induction h with
  | ptr b ep i j h => exact .ptr _ _ _ _ (by omega)
  | arr b ep o l f h => exact .arr _ _ _ _ _ (by omega)
  | iter b h => exact .iter _ (by omega)
  | map b h => exact .map _ (by omega)
  | _ => constructor <;> assumption

theorem St.congr {cx : Ctx} {base : Nat} {hp : Array Obj} {μ : Mu} {h h2 : H} (s : St cx base hp μ h) (hw : h2.boxes.length = h2.size) (hg : ∀ b L, μ b = some L → h2.get b = h.get b) : St cx base hp μ h2 :=
  ⟨hw, s.fit, fun b L hb => by obtain ⟨x, h1, hk⟩ := s.box b L hb; exact ⟨x, by rw [hg b L hb]; exact h1, hk⟩, s.inj, s.low, s.apart, s.resLt, s.glob⟩

theorem H.get_some {h : H} (hw : h.boxes.length = h.size) {b : Nat} (hb : b < h.size) : ∃ x, h.get b = some x := by
  rw [H.get_eq, if_pos hb]
  exact ⟨h.boxes[h.size - 1 - b]'(by omega), by simp⟩

/-! ### where a box was made -/

def crN (Hs : Nat → H) (b : Nat) : Nat → Nat
  | 0 => 0
  | k + 1 => if b < (Hs k).size then crN Hs b k else k + 1

theorem crN_le (Hs : Nat → H) (b n : Nat) : crN Hs b n ≤ n := by
  induction n with
  | zero => simp [crN]
  | succ n ih => unfold crN; split <;> omega

theorem crN_lt {Hs : Nat → H} {b : Nat} {n : Nat} (hmono : ∀ k, k < n → (Hs k).size ≤ (Hs (k + 1)).size) (hb : b < (Hs n).size) : b < (Hs (crN Hs b n)).size := by
  induction n with
  | zero => exact hb
  | succ n ih =>
    unfold crN
    split
    · rename_i h; exact ih (fun k hk => hmono k (by omega)) h
    · exact hb

theorem crN_not {Hs : Nat → H} {b : Nat} : ∀ {n p : Nat}, p < crN Hs b n → (∀ k, k < n → (Hs k).size ≤ (Hs (k + 1)).size) → (Hs p).size ≤ b := by
  intro n
  induction n with
  | zero => intro p hp; simp [crN] at hp
  | succ n ih =>
    intro p hp hmono
    unfold crN at hp
    split at hp
    · exact ih hp fun k hk => hmono k (by omega)
    · rename_i h
      -- p < n + 1
      have : ∀ d, p + d = n → (Hs p).size ≤ (Hs n).size := by
        intro d
        induction d generalizing p with
        | zero => intro e; rw [show p = n by omega]; exact Nat.le_refl _
        | succ d ihd =>
          intro e
          have := hmono p (by omega)
          have := ihd (p := p + 1) (by omega) (by omega)
          omega
      have := this (n - p) (by omega)
      omega

section
variable {Hs : Nat → H} {n : Nat} (hmono : ∀ k, k < n → (Hs k).size ≤ (Hs (k + 1)).size)
include hmono

theorem size_mono {p p' : Nat} (h : p ≤ p') (hp : p' ≤ n) : (Hs p).size ≤ (Hs p').size := by
  obtain ⟨d, rfl⟩ := Nat.exists_eq_add_of_le h
  clear h
  induction d with
  | zero => exact Nat.le_refl _
  | succ d ih =>
    have h1 := ih (by omega)
    have h2 := hmono (p + d) (by omega)
    have : p + (d + 1) = p + d + 1 := by omega
    rw [this]; omega

theorem crN_iff {b k : Nat} (hb : b < (Hs n).size) (hk : k ≤ n) : b < (Hs k).size ↔ crN Hs b n ≤ k := by
  constructor
  · intro h
    rcases Nat.lt_or_ge k (crN Hs b n) with hlt | hge
    · have := crN_not hlt hmono; omega
    · exact hge
  · intro h
    have := crN_lt hmono hb
    have := size_mono hmono h hk
    omega

theorem get_between {b p p' : Nat} (hpp : p ≤ p') (hk : ∀ k, p ≤ k → k < p' → (Hs (k + 1)).get b = (Hs k).get b) : (Hs p').get b = (Hs p).get b := by
  obtain ⟨d, rfl⟩ := Nat.exists_eq_add_of_le hpp
  clear hpp
  induction d with
  | zero => rfl
  | succ d ih =>
    have h1 := ih fun k a b => hk k a (by omega)
    have h2 := hk (p + d) (by omega) (by omega)
    have : p + (d + 1) = p + d + 1 := by omega
    rw [this, h2, h1]
end

/-- The heap at a stage: every box as it was made, or as it is behind the changes so far (those below q). -/
noncomputable def PH (Hs : Nat → H) (n : Nat) (q : Nat → Nat) : H :=
  ⟨(Hs n).size, 0, (List.range (Hs n).size).reverse.map fun b => ((Hs (max (q b) (crN Hs b n))).get b).getD default⟩

theorem PH_wf (Hs : Nat → H) (n : Nat) (q : Nat → Nat) : (PH Hs n q).boxes.length = (PH Hs n q).size := by simp [PH]

theorem PH_get {Hs : Nat → H} {n b : Nat} {q : Nat → Nat} (hmono : ∀ k, k < n → (Hs k).size ≤ (Hs (k + 1)).size) (hwf : ∀ k, k ≤ n → (Hs k).boxes.length = (Hs k).size) (hq : q b ≤ n) (hb : b < (Hs n).size) :
    (PH Hs n q).get b = (Hs (max (q b) (crN Hs b n))).get b := by
  have hm : max (q b) (crN Hs b n) ≤ n := by have := crN_le Hs b n; omega
  have hlt : b < (Hs (max (q b) (crN Hs b n))).size := (crN_iff hmono hb hm).2 (by omega)
  obtain ⟨x, hx⟩ := H.get_some (hwf _ hm) hlt
  rw [H.get_eq]
  have hs : (PH Hs n q).size = (Hs n).size := rfl
  rw [hs, if_pos hb]
  show ((List.range (Hs n).size).reverse.map fun b => ((Hs (max (q b) (crN Hs b n))).get b).getD default)[(Hs n).size - 1 - b]? = _
  rw [List.getElem?_map, List.getElem?_reverse (by simp; omega)]
  have : (List.range (Hs n).size).length - 1 - ((Hs n).size - 1 - b) = b := by simp; omega
  rw [this]
  simp [hb, hx]

/-! ### the last that set a slot -/

def lwN (ops : Array Oper) (listed : Array Bool) (s : Nat) : Nat → Nat
  | 0 => 0
  | k + 1 => if listed.getD k false = true ∧ (ops[k]?).bind (·.dst) = some s then k + 1 else lwN ops listed s k

theorem lwN_spec {ops : Array Oper} {listed : Array Bool} {s : Nat} : ∀ (n : Nat), lwN ops listed s n = 0 ∨ ∃ k, lwN ops listed s n = k + 1 ∧ k < n ∧ listed.getD k false = true ∧ (ops[k]?).bind (·.dst) = some s := by
  intro n
  induction n with
  | zero => left; rfl
  | succ n ih =>
    unfold lwN
    split
    · rename_i h; right; exact ⟨n, rfl, by omega, h.1, h.2⟩
    · rcases ih with h | ⟨k, h1, h2, h3⟩
      · left; exact h
      · right; exact ⟨k, h1, by omega, h3⟩

theorem lwN_ge {ops : Array Oper} {listed : Array Bool} {s : Nat} : ∀ {n k : Nat}, k < n → listed.getD k false = true → (ops[k]?).bind (·.dst) = some s → k + 1 ≤ lwN ops listed s n := by
  intro n
  induction n with
  | zero => intro k hk; omega
  | succ n ih =>
    intro k hk h1 h2
    unfold lwN
    split
    · omega
    · rename_i h
      rcases Nat.eq_or_lt_of_le (Nat.le_of_lt_succ hk) with rfl | hlt
      · exact absurd ⟨h1, h2⟩ h
      · exact ih hlt h1 h2

theorem lwN_le {ops : Array Oper} {listed : Array Bool} {s : Nat} (n : Nat) : lwN ops listed s n ≤ n := by
  rcases lwN_spec (ops := ops) (listed := listed) (s := s) n with h | ⟨k, h1, h2, _⟩ <;> omega

theorem lwN_congr {ops : Array Oper} {listed listed' : Array Bool} {s : Nat} : ∀ {n : Nat}, (∀ k, k < n → (ops[k]?).bind (·.dst) = some s → listed'.getD k false = listed.getD k false) → lwN ops listed' s n = lwN ops listed s n := by
  intro n
  induction n with
  | zero => intro _; rfl
  | succ n ih =>
    intro h
    have ih := ih fun k hk => h k (by omega)
    unfold lwN
    by_cases hd : (ops[n]?).bind (·.dst) = some s
    · rw [h n (by omega) hd, ih]
    · simp [hd, ih]
end Go.TI
