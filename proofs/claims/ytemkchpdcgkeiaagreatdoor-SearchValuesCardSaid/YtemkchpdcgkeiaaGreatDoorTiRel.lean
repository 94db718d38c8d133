/- How the interpreter's values and heap stand to the model's. -/
import Derived.Test.YtemkchpdcgkeiaaGreatDoorTiBase
import Derived.Calls
import Derived.Laws.CopyRow
import Derived.Laws.Cells
import Derived.Laws.Entries
namespace Go.TI
set_option linter.unusedSimpArgs false
set_option linter.unusedVariables false

/-- Where a box lies: its count of appends, its block, how many elements have room, how many cells one has. -/
structure Loc where
  ep : Nat
  blk : Nat
  cap : Nat
  sz : Nat

/-- Where the boxes lie; 'res': blocks that are kept apart, neither a box's nor to be read. -/
structure Mu where
  loc : Nat → Option Loc
  res : Nat → Prop

instance : CoeFun Mu (fun _ => Nat → Option Loc) := ⟨Mu.loc⟩

/-- Block i is a box's, or kept apart. -/
def InMu (μ : Mu) (i : Nat) : Prop := (∃ b L, μ b = some L ∧ L.blk = i) ∨ μ.res i

def T.scalar : T → Bool
  | .undef | .agg _ | .tuple _ => false
  | _ => true

/-- Nothing in the value leads to a box. -/
inductive Closed : T → Prop where
  | bool (b : Bool) : Closed (.bool b)
  | int (k : IntKind) (n : Int) : Closed (.int k n)
  | str (s : List Nat) : Closed (.str s)
  | nilp : Closed .nilp
  | tptr (cs : List T) (h : ∀ v ∈ cs, Closed v) : Closed (.tptr cs)
  | tree (es : List T) (full : Bool) (h : ∀ v ∈ es, Closed v) : Closed (.tree es full)
  | ewild : Closed .ewild
  | nilf : Closed .nilf
  | nili : Closed .nili
  | agg (cs : List T) (h : ∀ v ∈ cs, Closed v) : Closed (.agg cs)

/-- A cell of immutable memory. -/
def Shut (v : T) : Prop := v.scalar = true ∧ Closed v

def flat (es : List T) : List T := es.flatMap T.cells

def bytesOf (s : List Nat) : ByteArray := ⟨(s.map UInt8.ofNat).toArray⟩

/-- A value of the interpreter stands for a value of the model's. -/
inductive RelV (hp : Array Obj) (μ : Mu) : T → Value → Prop where
  | undef : RelV hp μ .undef (.tuple #[])
  | bool (b : Bool) : RelV hp μ (.bool b) (.bool b)
  | int (k : IntKind) (n : Int) : RelV hp μ (.int k n) (.int k n)
  | str (s : List Nat) (h : ∀ c ∈ s, c < 256) : RelV hp μ (.str s) (.string (bytesOf s))
  | nilp : RelV hp μ .nilp (.pointer none)
  | ptr (b ep i j : Nat) (L : Loc) (a : Addr) (hb : μ b = some L) (he : ep ≤ L.ep) (ha : ep = L.ep → a = ⟨L.blk, i * L.sz + j, none⟩) :
      RelV hp μ (.ptr b ep i j) (.pointer (some a))
  | tptr (cells : List T) (blk off : Nat) (arr : Array Value) (t : TypeId) (fz : Nat × Nat) (hn : ¬ InMu μ blk) (hh : hp[blk]? = some (.cells arr t fz))
      (hs : off + cells.length ≤ arr.size) (hc : ∀ v ∈ cells, Shut v)
      (hr : ∀ (k : Nat) v, cells[k]? = some v → RelV hp μ v (arr.getD (off + k) Go.undef)) : RelV hp μ (.tptr cells) (.pointer (some ⟨blk, off, none⟩))
  | tree0 (full : Bool) (a : Option Addr) : RelV hp μ (.tree [] full) (.slice a 0 0)
  | tree (e : T) (es : List T) (full : Bool) (blk off cap sz : Nat) (arr : Array Value) (t : TypeId) (fz : Nat × Nat) (hn : ¬ InMu μ blk)
      (hh : hp[blk]? = some (.cells arr t fz)) (hl : es.length + 1 ≤ cap) (hf : full = true → cap = es.length + 1)
      (hu : ∀ v ∈ e :: es, v.cells.length = sz) (hs : off + (flat (e :: es)).length ≤ arr.size) (hc : ∀ v ∈ flat (e :: es), Shut v)
      (hr : ∀ (k : Nat) v, (flat (e :: es))[k]? = some v → RelV hp μ v (arr.getD (off + k) Go.undef)) :
      RelV hp μ (.tree (e :: es) full) (.slice (some ⟨blk, off, none⟩) (es.length + 1) cap)
  | ewild (a : Option Addr) (cap : Nat) : RelV hp μ .ewild (.slice a 0 cap)
  | arr (b ep o l : Nat) (full : Bool) (L : Loc) (a : Option Addr) (cp : Nat) (hb : μ b = some L) (he : ep ≤ L.ep) (hl : l ≤ cp)
      (h : ep = L.ep → (full = true → cp = l) ∧ (full = false → o + cp = L.cap) ∧ (cp ≠ 0 → a = some ⟨L.blk, o * L.sz, none⟩)) :
      RelV hp μ (.arr b ep o l full) (.slice a l cp)
  | func (f : FuncId) (caps : List T) (cs : Array Value) (hs : cs.size = caps.length)
      (hr : ∀ (k : Nat) v, caps[k]? = some v → RelV hp μ v (cs.getD k Go.undef)) : RelV hp μ (.func f caps) (.func (.func f) #[] cs)
  | nilf : RelV hp μ .nilf .nilFunc
  | nili : RelV hp μ .nili .nilIface
  | iface (t : TypeId) (v : T) (c : Value) (h : RelV hp μ v c) : RelV hp μ (.iface t v) (.iface t c)
  | iter (b : Nat) (L : Loc) (a : Addr) (hb : μ b = some L) (h : L.ep = 0 → a = ⟨L.blk, 0, none⟩) : RelV hp μ (.iter b) (.pointer (some a))
  | map (b : Nat) (L : Loc) (i : Nat) (hb : μ b = some L) (h : L.ep = 0 → i = L.blk) : RelV hp μ (.map b) (.map (some i))
  | nilm : RelV hp μ .nilm (.map none)
  | agg (cells : List T) (cs : Array Value) (hs : cs.size = cells.length) (hc : ∀ v ∈ cells, v.scalar = true)
      (hr : ∀ (k : Nat) v, cells[k]? = some v → RelV hp μ v (cs.getD k Go.undef)) : RelV hp μ (.agg cells) (.agg cs)
  | tuple (vs : List T) (cs : Array Value) (hs : cs.size = vs.length)
      (hr : ∀ (k : Nat) v, vs[k]? = some v → RelV hp μ v (cs.getD k Go.undef)) : RelV hp μ (.tuple vs) (.tuple cs)

/-- From one world to a later one: what is no box's stays as it is; a box stays where it is, or its count of appends has grown. -/
structure Ext (hp : Array Obj) (μ : Mu) (hp' : Array Obj) (μ' : Mu) : Prop where
  size : hp.size ≤ hp'.size
  old : ∀ i, i < hp.size → ¬ InMu μ i → hp'[i]? = hp[i]? ∧ ¬ InMu μ' i
  mu : ∀ b L, μ b = some L → ∃ L', μ' b = some L' ∧ (L' = L ∨ L.ep < L'.ep)
  res : μ'.res = μ.res
  kept : ∀ i, i < hp.size → μ.res i → hp'[i]? = hp[i]?

/-- The same of worlds: the outside, the tape, what was printed stay. -/
structure ExtW (w : World) (μ : Mu) (w' : World) (μ' : Mu) : Prop where
  ext : Ext w.heap μ w'.heap μ'
  os : w'.os = w.os
  tape : w'.tape = w.tape
  output : w'.output = w.output

theorem Ext.refl (hp : Array Obj) (μ : Mu) : Ext hp μ hp μ := ⟨Nat.le_refl _, fun _ _ h => ⟨rfl, h⟩, fun _ L h => ⟨L, h, .inl rfl⟩, rfl, fun _ _ _ => rfl⟩

theorem Ext.trans {hp hp1 hp2 : Array Obj} {μ μ1 μ2 : Mu} (h : Ext hp μ hp1 μ1) (k : Ext hp1 μ1 hp2 μ2) : Ext hp μ hp2 μ2 := by
  refine ⟨Nat.le_trans h.size k.size, fun i hi hn => ?_, fun b L hb => ?_, k.res.trans h.res, fun i hi hr => ?_⟩
  rotate_right
  · rw [k.kept i (Nat.lt_of_lt_of_le hi h.size) (by rw [h.res]; exact hr), h.kept i hi hr]
  · obtain ⟨e1, n1⟩ := h.old i hi hn
    obtain ⟨e2, n2⟩ := k.old i (Nat.lt_of_lt_of_le hi h.size) n1
    exact ⟨e2.trans e1, n2⟩
  · obtain ⟨L1, h1, r1⟩ := h.mu b L hb
    obtain ⟨L2, h2, r2⟩ := k.mu b L1 h1
    refine ⟨L2, h2, ?_⟩
    rcases r1 with rfl | r1
    · exact r2
    · rcases r2 with rfl | r2
      · exact .inr r1
      · exact .inr (Nat.lt_trans r1 r2)

theorem ExtW.refl (w : World) (μ : Mu) : ExtW w μ w μ := ⟨Ext.refl _ _, rfl, rfl, rfl⟩

theorem ExtW.trans {w w1 w2 : World} {μ μ1 μ2 : Mu} (h : ExtW w μ w1 μ1) (k : ExtW w1 μ1 w2 μ2) : ExtW w μ w2 μ2 :=
  ⟨h.ext.trans k.ext, k.os.trans h.os, k.tape.trans h.tape, k.output.trans h.output⟩

theorem lt_of_heap {hp : Array Obj} {i : Nat} {o : Obj} (h : hp[i]? = some o) : i < hp.size := by
  rcases Nat.lt_or_ge i hp.size with hlt | hge
  · exact hlt
  · simp [Array.getElem?_eq_none hge] at h

theorem RelV.ext {hp hp' : Array Obj} {μ μ' : Mu} {v : T} {c : Value} (h : RelV hp μ v c) (x : Ext hp μ hp' μ') : RelV hp' μ' v c := by
  induction h with
  | undef => exact .undef
  | bool b => exact .bool b
  | int k n => exact .int k n
  | str s h => exact .str s h
  | nilp => exact .nilp
  | ptr b ep i j L a hb he ha =>
    obtain ⟨L', hb', r⟩ := x.mu b L hb
    refine .ptr b ep i j L' a hb' ?_ ?_
    · rcases r with rfl | r <;> omega
    · intro e
      rcases r with rfl | r
      · exact ha e
      · omega
  | tptr cells blk off arr t fz hn hh hs hc _ ih =>
    obtain ⟨e, n⟩ := x.old blk (lt_of_heap hh) hn
    exact .tptr cells blk off arr t fz n (e.trans hh) hs hc ih
  | tree0 full a => exact .tree0 full a
  | tree e es full blk off cap sz arr t fz hn hh hl hf hu hs hc _ ih =>
    obtain ⟨q, n⟩ := x.old blk (lt_of_heap hh) hn
    exact .tree e es full blk off cap sz arr t fz n (q.trans hh) hl hf hu hs hc ih
  | ewild a cap => exact .ewild a cap
  | arr b ep o l full L a cp hb he hl h =>
    obtain ⟨L', hb', r⟩ := x.mu b L hb
    refine .arr b ep o l full L' a cp hb' ?_ hl ?_
    · rcases r with rfl | r <;> omega
    · intro e
      rcases r with rfl | r
      · exact h e
      · omega
  | func f caps cs hs _ ih => exact .func f caps cs hs ih
  | nilf => exact .nilf
  | nili => exact .nili
  | iface t v c _ ih => exact .iface t v c ih
  | iter b L a hb h =>
    obtain ⟨L', hb', r⟩ := x.mu b L hb
    refine .iter b L' a hb' ?_
    intro e
    rcases r with rfl | r
    · exact h e
    · omega
  | map b L i hb h =>
    obtain ⟨L', hb', r⟩ := x.mu b L hb
    refine .map b L' i hb' ?_
    intro e
    rcases r with rfl | r
    · exact h e
    · omega
  | nilm => exact .nilm
  | agg cells cs hs hc _ ih => exact .agg cells cs hs hc ih
  | tuple vs cs hs _ ih => exact .tuple vs cs hs ih

/-- A list of cells stands for a row. -/
def RelL (hp : Array Obj) (μ : Mu) (vs : List T) (cs : List Value) : Prop :=
  vs.length = cs.length ∧ ∀ (k : Nat) v, vs[k]? = some v → RelV hp μ v (cs.getD k Go.undef)

theorem RelL.ext {hp hp' : Array Obj} {μ μ' : Mu} {vs : List T} {cs : List Value} (h : RelL hp μ vs cs) (x : Ext hp μ hp' μ') : RelL hp' μ' vs cs :=
  ⟨h.1, fun k v hv => (h.2 k v hv).ext x⟩

theorem RelL.nil {hp : Array Obj} {μ : Mu} : RelL hp μ [] [] := ⟨rfl, fun k v h => by simp at h⟩

theorem RelL.cons {hp : Array Obj} {μ : Mu} {v : T} {c : Value} {vs : List T} {cs : List Value} (h : RelV hp μ v c) (hs : RelL hp μ vs cs) : RelL hp μ (v :: vs) (c :: cs) := by
  refine ⟨by simp [hs.1], fun k x hx => ?_⟩
  cases k with
  | zero => simp at hx; subst hx; simpa using h
  | succ k => simp at hx; simpa using hs.2 k x hx

theorem RelL.uncons {hp : Array Obj} {μ : Mu} {v : T} {vs : List T} {cs : List Value} (h : RelL hp μ (v :: vs) cs) : ∃ c cs', cs = c :: cs' ∧ RelV hp μ v c ∧ RelL hp μ vs cs' := by
  obtain ⟨hl, hr⟩ := h
  cases cs with
  | nil => simp at hl
  | cons c cs' => exact ⟨c, cs', rfl, by simpa using hr 0 v (by simp), by simpa using hl, fun k x hx => by simpa using hr (k + 1) x (by simpa using hx)⟩

theorem RelL.append {hp : Array Obj} {μ : Mu} {vs vs' : List T} {cs cs' : List Value} (h : RelL hp μ vs cs) (h' : RelL hp μ vs' cs') : RelL hp μ (vs ++ vs') (cs ++ cs') := by
  induction vs generalizing cs with
  | nil => obtain ⟨hl, _⟩ := h; simp at hl; rw [List.eq_nil_of_length_eq_zero hl.symm]; simpa using h'
  | cons v vs ih => obtain ⟨c, cs1, rfl, hv, hs⟩ := h.uncons; exact RelL.cons hv (ih hs)

theorem RelL.take {hp : Array Obj} {μ : Mu} {vs : List T} {cs : List Value} (h : RelL hp μ vs cs) (n : Nat) : RelL hp μ (vs.take n) (cs.take n) := by
  induction n generalizing vs cs with
  | zero => simpa using RelL.nil
  | succ n ih => cases vs with
    | nil => obtain ⟨hl, _⟩ := h; simp at hl; rw [List.eq_nil_of_length_eq_zero hl.symm]; simpa using RelL.nil
    | cons v vs => obtain ⟨c, cs1, rfl, hv, hs⟩ := h.uncons; exact RelL.cons hv (ih hs)

theorem RelL.drop {hp : Array Obj} {μ : Mu} {vs : List T} {cs : List Value} (h : RelL hp μ vs cs) (n : Nat) : RelL hp μ (vs.drop n) (cs.drop n) := by
  induction n generalizing vs cs with
  | zero => simpa using h
  | succ n ih => cases vs with
    | nil => obtain ⟨hl, _⟩ := h; simp at hl; rw [List.eq_nil_of_length_eq_zero hl.symm]; simpa using RelL.nil
    | cons v vs => obtain ⟨c, cs1, rfl, _, hs⟩ := h.uncons; simpa using ih hs

theorem RelL.get {hp : Array Obj} {μ : Mu} {vs : List T} {cs : List Value} (h : RelL hp μ vs cs) {k : Nat} {v : T} (hv : vs[k]? = some v) : ∃ c, cs[k]? = some c ∧ RelV hp μ v c := by
  have hk : k < cs.length := by
    rw [← h.1]
    rcases Nat.lt_or_ge k vs.length with hlt | hge
    · exact hlt
    · simp [List.getElem?_eq_none hge] at hv
  refine ⟨cs[k], by simp [hk], ?_⟩
  simpa [List.getD, hk] using h.2 k v hv

theorem scalar_oneCell {hp : Array Obj} {μ : Mu} {v : T} {c : Value} (h : RelV hp μ v c) (hs : v.scalar = true) : c.oneCell' = true := by
  cases h <;> first | rfl | (simp [T.scalar] at hs)

/-- The cells of a value that is neither unset nor a tuple. -/
theorem RelV.cells {hp : Array Obj} {μ : Mu} {v : T} {c : Value} (h : RelV hp μ v c) (hg : v.good = true) :
    RelL hp μ v.cells c.cells.toList ∧ (∀ x ∈ v.cells, x.scalar = true) ∧ ∀ x ∈ c.cells.toList, x.oneCell' = true := by
  have one : ∀ {v : T} {c : Value}, RelV hp μ v c → v.scalar = true → v.cells = [v] → c.cells = #[c] →
      RelL hp μ v.cells c.cells.toList ∧ (∀ x ∈ v.cells, x.scalar = true) ∧ ∀ x ∈ c.cells.toList, x.oneCell' = true := by
    intro v c h hs hv hc
    rw [hv, hc]
    refine ⟨RelL.cons h RelL.nil, ?_, ?_⟩
    · intro x hx; simp at hx; rw [hx]; exact hs
    · intro x hx; simp at hx; rw [hx]; exact scalar_oneCell h hs
  cases h with
  | agg cells cs hs hc hr =>
    have hL : RelL hp μ cells cs.toList := ⟨by simp [hs], fun k v hv => by simpa [Array.getD_eq_getD_getElem?, List.getD] using hr k v hv⟩
    refine ⟨hL, hc, ?_⟩
    intro x hx0
    have hx : x ∈ cs.toList := hx0
    obtain ⟨k, hk, rfl⟩ := List.getElem_of_mem hx
    have hk' : k < cells.length := by simp at hk; omega
    have := hr k cells[k] (by simp [hk'])
    have h2 := scalar_oneCell this (hc _ (List.getElem_mem hk'))
    simp at hk
    simpa [Array.getD_eq_getD_getElem?, hk] using h2
  | undef => simp [T.good] at hg
  | tuple => simp [T.good] at hg
  | bool b => exact one (.bool b) rfl rfl rfl
  | int k n => exact one (.int k n) rfl rfl rfl
  | str s hb => exact one (.str s hb) rfl rfl rfl
  | nilp => exact one .nilp rfl rfl rfl
  | ptr b ep i j L a hb he ha => exact one (.ptr b ep i j L a hb he ha) rfl rfl rfl
  | tptr cells blk off arr t fz hn hh hs hc hr => exact one (.tptr cells blk off arr t fz hn hh hs hc hr) rfl rfl rfl
  | tree0 full a => exact one (.tree0 full a) rfl rfl rfl
  | tree e es full blk off cap sz arr t fz hn hh hl hf hu hs hc hr => exact one (.tree e es full blk off cap sz arr t fz hn hh hl hf hu hs hc hr) rfl rfl rfl
  | ewild a cap => exact one (.ewild a cap) rfl rfl rfl
  | arr b ep o l full L a cp hb he hl h => exact one (.arr b ep o l full L a cp hb he hl h) rfl rfl rfl
  | func f caps cs hs hr => exact one (.func f caps cs hs hr) rfl rfl rfl
  | nilf => exact one .nilf rfl rfl rfl
  | nili => exact one .nili rfl rfl rfl
  | iface t v c h => exact one (.iface t v c h) rfl rfl rfl
  | iter b L a hb h => exact one (.iter b L a hb h) rfl rfl rfl
  | map b L i hb h => exact one (.map b L i hb h) rfl rfl rfl
  | nilm => exact one .nilm rfl rfl rfl

/-! ### Boxes and the state -/

/-- A box's cells lie in its block. -/
structure CellsOk (hp : Array Obj) (μ : Mu) (L : Loc) (exact_ : Bool) (elems : List T) : Prop where
  row : ∃ arr t, hp[L.blk]? = some (.cells arr t (0, 0)) ∧ arr.size = L.cap * L.sz ∧ RelL hp μ (flat elems) (arr.toList.take (flat elems).length)
  room : elems.length ≤ L.cap
  exact_ : exact_ = true → L.cap = elems.length
  size : ∀ v ∈ elems, v.cells.length = L.sz
  scalar : ∀ v ∈ flat elems, v.scalar = true

/-- A map's entries, in the order in which they came. -/
def MapOk (hp : Array Obj) (μ : Mu) (L : Loc) (elems : List T) : Prop :=
  ∃ es : Array MapEntry, hp[L.blk]? = some (.map es es.size) ∧ es.size = elems.length ∧
    ∀ (i : Nat) x, elems[i]? = some x → ∃ k v me, x = .tuple [k, v] ∧ es[i]? = some me ∧ me.born = i ∧ RelV hp μ k me.key ∧ RelV hp μ v me.val

structure BoxOk (hp : Array Obj) (μ : Mu) (L : Loc) (x : Box) : Prop where
  ep : x.ep = L.ep
  sz : x.sz = L.sz
  plain : x.it = false → CellsOk hp μ L x.exact x.elems
  iter : x.it = true → x.ep = 0 ∧ ((∃ s pos, x.elems = [.str s, .int .i64 (.ofNat pos)] ∧ (∀ c ∈ s, c < 256) ∧ hp[L.blk]? = some (.stringIter (bytesOf s) pos)) ∨ MapOk hp μ L x.elems)

/-- The interpreter's heap stands for the model's; 'base': below it nothing is a box's. -/
structure St (cx : Ctx) (base : Nat) (hp : Array Obj) (μ : Mu) (h : H) : Prop where
  wf : h.boxes.length = h.size
  fit : base ≤ hp.size
  box : ∀ b L, μ b = some L → ∃ x, h.get b = some x ∧ BoxOk hp μ L x
  inj : ∀ b b' L L', μ b = some L → μ b' = some L' → L.blk = L'.blk → b = b'
  low : ∀ b L, μ b = some L → base ≤ L.blk
  apart : ∀ b L, μ b = some L → ¬ μ.res L.blk
  resLt : ∀ i, μ.res i → i < hp.size
  glob : ∀ g cs, cx.gl g = some cs → RelV hp μ (.tptr cs) (.pointer (some ⟨g, 0, none⟩))

theorem CellsOk.ext {hp hp' : Array Obj} {μ μ' : Mu} {L : Loc} {x : Bool} {es : List T} (h : CellsOk hp μ L x es) (e : Ext hp μ hp' μ') (hb : hp'[L.blk]? = hp[L.blk]?) : CellsOk hp' μ' L x es := by
  obtain ⟨arr, t, h1, h2, h3⟩ := h.row
  exact ⟨⟨arr, t, hb.trans h1, h2, h3.ext e⟩, h.room, h.exact_, h.size, h.scalar⟩

theorem BoxOk.ext {hp hp' : Array Obj} {μ μ' : Mu} {L : Loc} {x : Box} (h : BoxOk hp μ L x) (e : Ext hp μ hp' μ') (hb : hp'[L.blk]? = hp[L.blk]?) : BoxOk hp' μ' L x :=
  ⟨h.ep, h.sz, fun k => (h.plain k).ext e hb, fun k => by
    obtain ⟨h0, ⟨s, pos, h1, h2, h3⟩ | ⟨es, h1, h2, h3⟩⟩ := h.iter k
    · exact ⟨h0, .inl ⟨s, pos, h1, h2, hb.trans h3⟩⟩
    · refine ⟨h0, .inr ⟨es, hb.trans h1, h2, fun i x hx => ?_⟩⟩
      obtain ⟨k, v, me, g1, g2, g3, g4, g5⟩ := h3 i x hx
      exact ⟨k, v, me, g1, g2, g3, g4.ext e, g5.ext e⟩⟩

theorem BoxOk.lt {hp : Array Obj} {μ : Mu} {L : Loc} {x : Box} (h : BoxOk hp μ L x) : L.blk < hp.size := by
  cases hi : x.it with
  | false => obtain ⟨arr, t, h1, _⟩ := (h.plain hi).row; exact lt_of_heap h1
  | true =>
    obtain ⟨_, ⟨s, pos, _, _, h3⟩ | ⟨es, h1, _⟩⟩ := h.iter hi
    · exact lt_of_heap h3
    · exact lt_of_heap h1

theorem St.lt {cx : Ctx} {base : Nat} {hp : Array Obj} {μ : Mu} {h : H} (s : St cx base hp μ h) {b : Nat} {L : Loc} (hb : μ b = some L) : L.blk < hp.size := by
  obtain ⟨x, _, hx⟩ := s.box b L hb
  exact hx.lt

end Go.TI
