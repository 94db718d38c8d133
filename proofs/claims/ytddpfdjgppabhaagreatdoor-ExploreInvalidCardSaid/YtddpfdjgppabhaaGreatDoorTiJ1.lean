/- The interpreter of trees, part 1 of 8: TiBase TiRel TiTypes TiPure TiBin TiEq TiRead TiRead2 TiRead3 TiWrite. -/
import Derived.Test.YtddpfdjgppabhaaGreatDoorTiJ0
import Derived.IntWalk
import Derived.Calls
import Derived.Laws.CopyRow
import Derived.Laws.Cells
import Derived.Laws.Entries
import Derived.WalkCall
import Derived.Laws.Strings
import Derived.Lib.Strings
import Derived.Laws.StructEq
import Derived.ChangeKeysEq
set_option linter.unusedSimpArgs false
set_option linter.unusedVariables false
/- Plain facts on the interpreter's small words. -/
namespace Go.TI

@[simp] theorem bnd_some {α β : Type} (a : α) (f : α → Option β) : bnd (some a) f = f a := rfl
@[simp] theorem bnd_none {α β : Type} (f : α → Option β) : bnd (none : Option α) f = none := rfl
theorem bnd_eq_some {α β : Type} {x : Option α} {f : α → Option β} {y : β} : bnd x f = some y ↔ ∃ a, x = some a ∧ f a = some y := by
  cases x <;> simp
@[simp] theorem chk_true {α : Type} (x : Option α) : chk true x = x := rfl
@[simp] theorem chk_false {α : Type} (x : Option α) : chk false x = none := rfl
theorem chk_eq_some {α : Type} {b : Bool} {x : Option α} {y : α} : chk b x = some y ↔ b = true ∧ x = some y := by
  cases b <;> simp
@[simp] theorem two_mk {α β γ : Type} (a : α) (b : β) (f : α → β → γ) : two (a, b) f = f a b := rfl
@[simp] theorem three_mk {γ : Type} (x : Ex) (e : Env) (h : H) (f : Ex → Env → H → γ) : three (x, e, h) f = f x e h := rfl

section lists
variable {α β : Type}
@[simp] theorem nthD_eq (l : List α) (n : Nat) : nthD l n = l[n]? := by
  induction l generalizing n with
  | nil => simp [nthD]
  | cons x r ih => cases n with
    | zero => rfl
    | succ n => exact (ih n).trans (by simp)

theorem setNth_eq (l : List α) (n : Nat) (y : α) : setNth l n y = if n < l.length then some (l.set n y) else none := by
  induction l generalizing n with
  | nil => rfl
  | cons x r ih => cases n with
    | zero => rfl
    | succ n =>
      show (bnd (setNth r n y) fun t => some (x :: t)) = _
      rw [ih]
      by_cases h : n < r.length <;> simp [h]

theorem takeN_eq (n : Nat) (l : List α) : takeN n l = if n ≤ l.length then some (l.take n) else none := by
  induction n generalizing l with
  | zero => rfl
  | succ n ih => cases l with
    | nil => rfl
    | cons x r =>
      show (bnd (takeN n r) fun t => some (x :: t)) = _
      rw [ih]
      by_cases h : n ≤ r.length <;> simp [h]

theorem dropN_eq (n : Nat) (l : List α) : dropN n l = if n ≤ l.length then some (l.drop n) else none := by
  induction n generalizing l with
  | zero => rfl
  | succ n ih => cases l with
    | nil => rfl
    | cons x r =>
      show dropN n r = _
      rw [ih]
      by_cases h : n ≤ r.length <;> simp [h]

@[simp] theorem lenN_eq (l : List α) : lenN l = l.length := by
  induction l with
  | nil => rfl
  | cons x r ih => show Nat.succ (lenN r) = _; rw [ih]; rfl

@[simp] theorem appN_eq (xs ys : List α) : appN xs ys = some (xs ++ ys) := by
  induction xs with
  | nil => rfl
  | cons x r ih => show (bnd (appN r ys) fun t => some (x :: t)) = _; rw [ih]; rfl

theorem mapOpt_cons (f : α → Option β) (x : α) (l : List α) : mapOpt f (x :: l) = bnd (f x) fun y => bnd (mapOpt f l) fun t => some (y :: t) := rfl
@[simp] theorem mapOpt_nil (f : α → Option β) : mapOpt f [] = some [] := rfl

theorem mapOpt_eq_some {f : α → Option β} {l : List α} {r : List β} : mapOpt f l = some r ↔ l.length = r.length ∧ ∀ (k : Nat) x, l[k]? = some x → ∃ y, r[k]? = some y ∧ f x = some y := by
  induction l generalizing r with
  | nil =>
    constructor
    · intro h; simp at h; subst h; simp
    · rintro ⟨h, _⟩; simp at h; simp [List.eq_nil_of_length_eq_zero h.symm]
  | cons x l ih =>
    rw [mapOpt_cons]
    constructor
    · intro h
      obtain ⟨y, hy, h⟩ := bnd_eq_some.1 h
      obtain ⟨t, ht, h⟩ := bnd_eq_some.1 h
      simp at h; subst h
      obtain ⟨hl, hk⟩ := ih.1 ht
      refine ⟨by simp [hl], fun k z hz => ?_⟩
      cases k with
      | zero => simp at hz; subst hz; exact ⟨y, by simp, hy⟩
      | succ k => simp at hz; obtain ⟨w, hw, hf⟩ := hk k z hz; exact ⟨w, by simpa using hw, hf⟩
    · rintro ⟨hl, hk⟩
      cases r with
      | nil => simp at hl
      | cons y r =>
        obtain ⟨y', hy', hf⟩ := hk 0 x (by simp)
        simp at hy'; subst hy'
        have : mapOpt f l = some r := ih.2 ⟨by simpa using hl, fun k z hz => by simpa using hk (k + 1) z (by simpa using hz)⟩
        rw [hf, this]; rfl

@[simp] theorem replicateN_eq (x : α) (n : Nat) : replicateN x n = List.replicate n x := by
  induction n with
  | zero => rfl
  | succ n ih => show x :: replicateN x n = _; rw [ih]; rfl

@[simp] theorem allB_eq (f : α → Bool) (l : List α) : allB f l = l.all f := by
  induction l with
  | nil => rfl
  | cons x l ih =>
    show @Bool.rec (fun _ => Bool) false (allB f l) (f x) = _
    rw [ih]; cases h : f x <;> simp [h]
end lists

@[simp] theorem normNat_eq (n : Nat) : normNat n = some n := by cases n <;> rfl
@[simp] theorem normInt_eq (n : Int) : normInt n = some n := by
  cases n with
  | ofNat m => cases m <;> rfl
  | negSucc m => cases m <;> rfl
@[simp] theorem rInt_eq (k : IntKind) (n : Int) : rInt k n = some (.int k n) := by simp [rInt]
@[simp] theorem rBool_eq (b : Bool) : rBool b = some (.bool b) := by cases b <;> rfl
@[simp] theorem kEq_eq (a b : IntKind) : (kEq a b = true) ↔ a = b := by cases a <;> cases b <;> decide

theorem ltI_eq (a b : Int) : ltI a b = decide (a < b) := by
  cases a with
  | ofNat m => cases b with
    | ofNat n =>
      show Nat.blt m n = _
      rw [Bool.eq_iff_iff, Nat.blt_eq]; simp
    | negSucc n => show false = _; symm; simp; omega
  | negSucc m => cases b with
    | ofNat n => show true = _; symm; simp; omega
    | negSucc n =>
      show Nat.blt n m = _
      rw [Bool.eq_iff_iff, Nat.blt_eq]; simp; omega

theorem eqI_eq (a b : Int) : eqI a b = (a == b) := by
  cases a with
  | ofNat m => cases b with
    | ofNat n =>
      show Nat.beq m n = _
      rw [Bool.eq_iff_iff, Nat.beq_eq]; simp; omega
    | negSucc n => rfl
  | negSucc m => cases b with
    | ofNat n => rfl
    | negSucc n =>
      show Nat.beq m n = _
      rw [Bool.eq_iff_iff, Nat.beq_eq]; simp

theorem wrapF_eq (k : IntKind) (n : Int) : wrapF k n = k.wrap n := by
  cases k <;> try rfl
  cases n with
  | ofNat m =>
    show @Bool.rec (fun _ => Int) (IntKind.i64.wrap (.ofNat m)) (Int.ofNat m) (Nat.ble m 9223372036854775807) = _
    cases h : Nat.ble m 9223372036854775807
    · rfl
    · have := Nat.le_of_ble_eq_true h
      show Int.ofNat m = _
      exact (IntWalk.i64_in _ (by simp; omega)).symm
  | negSucc m =>
    show @Bool.rec (fun _ => Int) (IntKind.i64.wrap (.negSucc m)) (Int.negSucc m) (Nat.ble m 9223372036854775807) = _
    cases h : Nat.ble m 9223372036854775807
    · rfl
    · have := Nat.le_of_ble_eq_true h
      show Int.negSucc m = _
      exact (IntWalk.i64_in _ (by omega)).symm

@[simp] theorem rWrap_eq (k : IntKind) (n : Int) : rWrap k n = some (.int k (k.wrap n)) := by simp [rWrap, wrapF_eq]

theorem eqL_eq (a b : List Nat) : eqL a b = (a == b) := by
  induction a generalizing b with
  | nil => cases b <;> rfl
  | cons x a ih => cases b with
    | nil => rfl
    | cons y b =>
      show @Bool.rec (fun _ => Bool) false (eqL a b) (Nat.beq x y) = _
      rw [ih]
      rw [List.cons_beq_cons]
      cases h : Nat.beq x y
      · have : (x == y) = false := by rw [← Bool.not_eq_true, beq_iff_eq, ← Nat.beq_eq]; simp [h]
        simp [this]
      · have : (x == y) = true := by rw [beq_iff_eq, ← Nat.beq_eq]; exact h
        simp [this]

/-! ### the heap's words -/

theorem H.get_eq (h : H) (b : Nat) : h.get b = if b < h.size then h.boxes[h.size - 1 - b]? else none := by
  obtain ⟨size, low, boxes⟩ := h
  show chk (Nat.blt b size) (nthD boxes _) = _
  by_cases hb : b < size
  · have : Nat.blt b size = true := by rw [Nat.blt_eq]; exact hb
    simp [this, hb]
  · have : Nat.blt b size = false := by rw [← Bool.not_eq_true, Nat.blt_eq]; exact hb
    simp [this, hb]

theorem H.new_eq (v : Nat → T) (h : H) (x : Box) : h.new v x = some (v h.size, ⟨h.size + 1, h.low, x :: h.boxes⟩) := by
  obtain ⟨size, low, boxes⟩ := h
  show (bnd (normNat (Nat.succ size)) fun n => some (v size, (⟨n, low, x :: boxes⟩ : H))) = _
  simp

theorem H.put_eq_some {h h' : H} {b : Nat} {x : Box} : h.put b x = some h' ↔
    b < h.size ∧ h.size - 1 - b < h.boxes.length ∧ h' = ⟨h.size, if b < h.low then b else h.low, h.boxes.set (h.size - 1 - b) x⟩ := by
  obtain ⟨size, low, boxes⟩ := h
  show chk (Nat.blt b size) (bnd (setNth boxes (size - 1 - b) x) fun bs => @Bool.rec (fun _ => Option H) (some (⟨size, low, bs⟩ : H)) (some ⟨size, b, bs⟩) (Nat.blt b low)) = _ ↔ _
  rw [chk_eq_some, Nat.blt_eq, setNth_eq]
  constructor
  · rintro ⟨hb, hs⟩
    obtain ⟨bs, h1, h2⟩ := bnd_eq_some.1 hs
    split at h1
    · rename_i hl
      simp at h1; subst h1
      refine ⟨hb, hl, ?_⟩
      by_cases hlow : b < low
      · have : Nat.blt b low = true := by rw [Nat.blt_eq]; exact hlow
        rw [this] at h2; simp at h2; simp [hlow, ← h2]
      · have : Nat.blt b low = false := by rw [← Bool.not_eq_true, Nat.blt_eq]; exact hlow
        rw [this] at h2; simp at h2; simp [hlow, ← h2]
    · simp at h1
  · rintro ⟨hb, hl, rfl⟩
    refine ⟨hb, ?_⟩
    simp only [] at hl
    rw [if_pos hl]
    by_cases hlow : b < low
    · have : Nat.blt b low = true := by rw [Nat.blt_eq]; exact hlow
      simp [this, hlow]
    · have : Nat.blt b low = false := by rw [← Bool.not_eq_true, Nat.blt_eq]; exact hlow
      simp [this, hlow]

end Go.TI

/- How the interpreter's values and heap stand to the model's. -/
namespace Go.TI

/-- Where a box lies: its count of appends, its block, how many elements have room, how many cells one has. -/
structure Loc where
  ep : Nat
  blk : Nat
  cap : Nat
  sz : Nat

/-- Where the boxes lie; 'res': blocks that are kept apart, neither a box's nor to be read. -/
structure Mu where
  loc : Nat → Option Loc
  res : Nat → Prop

instance : CoeFun Mu (fun _ => Nat → Option Loc) := ⟨Mu.loc⟩

/-- Block i is a box's, or kept apart. -/
def InMu (μ : Mu) (i : Nat) : Prop := (∃ b L, μ b = some L ∧ L.blk = i) ∨ μ.res i

def T.scalar : T → Bool
  | .undef | .agg _ | .tuple _ => false
  | _ => true

/-- Nothing in the value leads to a box. -/
inductive Closed : T → Prop where
  | bool (b : Bool) : Closed (.bool b)
  | int (k : IntKind) (n : Int) : Closed (.int k n)
  | str (s : List Nat) : Closed (.str s)
  | nilp : Closed .nilp
  | tptr (cs : List T) (h : ∀ v ∈ cs, Closed v) : Closed (.tptr cs)
  | tree (es : List T) (full : Bool) (h : ∀ v ∈ es, Closed v) : Closed (.tree es full)
  | ewild : Closed .ewild
  | nilf : Closed .nilf
  | nili : Closed .nili
  | agg (cs : List T) (h : ∀ v ∈ cs, Closed v) : Closed (.agg cs)

/-- A cell of immutable memory. -/
def Shut (v : T) : Prop := v.scalar = true ∧ Closed v

def flat (es : List T) : List T := es.flatMap T.cells

def bytesOf (s : List Nat) : ByteArray := ⟨(s.map UInt8.ofNat).toArray⟩

/-- A value of the interpreter stands for a value of the model's. -/
inductive RelV (hp : Array Obj) (μ : Mu) : T → Value → Prop where
  | undef : RelV hp μ .undef (.tuple #[])
  | bool (b : Bool) : RelV hp μ (.bool b) (.bool b)
  | int (k : IntKind) (n : Int) : RelV hp μ (.int k n) (.int k n)
  | str (s : List Nat) (h : ∀ c ∈ s, c < 256) : RelV hp μ (.str s) (.string (bytesOf s))
  | nilp : RelV hp μ .nilp (.pointer none)
  | ptr (b ep i j : Nat) (L : Loc) (a : Addr) (hb : μ b = some L) (he : ep ≤ L.ep) (ha : ep = L.ep → a = ⟨L.blk, i * L.sz + j, none⟩) :
      RelV hp μ (.ptr b ep i j) (.pointer (some a))
  | tptr (cells : List T) (blk off : Nat) (arr : Array Value) (t : TypeId) (fz : Nat × Nat) (hn : ¬ InMu μ blk) (hh : hp[blk]? = some (.cells arr t fz))
      (hs : off + cells.length ≤ arr.size) (hc : ∀ v ∈ cells, Shut v)
      (hr : ∀ (k : Nat) v, cells[k]? = some v → RelV hp μ v (arr.getD (off + k) Go.undef)) : RelV hp μ (.tptr cells) (.pointer (some ⟨blk, off, none⟩))
  | tree0 (full : Bool) (a : Option Addr) : RelV hp μ (.tree [] full) (.slice a 0 0)
  | tree (e : T) (es : List T) (full : Bool) (blk off cap sz : Nat) (arr : Array Value) (t : TypeId) (fz : Nat × Nat) (hn : ¬ InMu μ blk)
      (hh : hp[blk]? = some (.cells arr t fz)) (hl : es.length + 1 ≤ cap) (hf : full = true → cap = es.length + 1)
      (hu : ∀ v ∈ e :: es, v.cells.length = sz) (hs : off + (flat (e :: es)).length ≤ arr.size) (hc : ∀ v ∈ flat (e :: es), Shut v)
      (hr : ∀ (k : Nat) v, (flat (e :: es))[k]? = some v → RelV hp μ v (arr.getD (off + k) Go.undef)) :
      RelV hp μ (.tree (e :: es) full) (.slice (some ⟨blk, off, none⟩) (es.length + 1) cap)
  | ewild (a : Option Addr) (cap : Nat) : RelV hp μ .ewild (.slice a 0 cap)
  | arr (b ep o l : Nat) (full : Bool) (L : Loc) (a : Option Addr) (cp : Nat) (hb : μ b = some L) (he : ep ≤ L.ep) (hl : l ≤ cp)
      (h : ep = L.ep → (full = true → cp = l) ∧ (full = false → o + cp = L.cap) ∧ (cp ≠ 0 → a = some ⟨L.blk, o * L.sz, none⟩)) :
      RelV hp μ (.arr b ep o l full) (.slice a l cp)
  | func (f : FuncId) (caps : List T) (cs : Array Value) (hs : cs.size = caps.length)
      (hr : ∀ (k : Nat) v, caps[k]? = some v → RelV hp μ v (cs.getD k Go.undef)) : RelV hp μ (.func f caps) (.func (.func f) #[] cs)
  | nilf : RelV hp μ .nilf .nilFunc
  | nili : RelV hp μ .nili .nilIface
  | iface (t : TypeId) (v : T) (c : Value) (h : RelV hp μ v c) : RelV hp μ (.iface t v) (.iface t c)
  | iter (b : Nat) (L : Loc) (a : Addr) (hb : μ b = some L) (h : L.ep = 0 → a = ⟨L.blk, 0, none⟩) : RelV hp μ (.iter b) (.pointer (some a))
  | map (b : Nat) (L : Loc) (i : Nat) (hb : μ b = some L) (h : L.ep = 0 → i = L.blk) : RelV hp μ (.map b) (.map (some i))
  | nilm : RelV hp μ .nilm (.map none)
  | agg (cells : List T) (cs : Array Value) (hs : cs.size = cells.length) (hc : ∀ v ∈ cells, v.scalar = true)
      (hr : ∀ (k : Nat) v, cells[k]? = some v → RelV hp μ v (cs.getD k Go.undef)) : RelV hp μ (.agg cells) (.agg cs)
  | tuple (vs : List T) (cs : Array Value) (hs : cs.size = vs.length)
      (hr : ∀ (k : Nat) v, vs[k]? = some v → RelV hp μ v (cs.getD k Go.undef)) : RelV hp μ (.tuple vs) (.tuple cs)

/-- From one world to a later one: what is no box's stays as it is; a box stays where it is, or its count of appends has grown. -/
structure Ext (hp : Array Obj) (μ : Mu) (hp' : Array Obj) (μ' : Mu) : Prop where
  size : hp.size ≤ hp'.size
  old : ∀ i, i < hp.size → ¬ InMu μ i → hp'[i]? = hp[i]? ∧ ¬ InMu μ' i
  mu : ∀ b L, μ b = some L → ∃ L', μ' b = some L' ∧ (L' = L ∨ L.ep < L'.ep)
  res : μ'.res = μ.res
  kept : ∀ i, i < hp.size → μ.res i → hp'[i]? = hp[i]?

/-- The same of worlds: the outside, the tape, what was printed stay. -/
structure ExtW (w : World) (μ : Mu) (w' : World) (μ' : Mu) : Prop where
  ext : Ext w.heap μ w'.heap μ'
  os : w'.os = w.os
  tape : w'.tape = w.tape
  output : w'.output = w.output

theorem Ext.refl (hp : Array Obj) (μ : Mu) : Ext hp μ hp μ := ⟨Nat.le_refl _, fun _ _ h => ⟨rfl, h⟩, fun _ L h => ⟨L, h, .inl rfl⟩, rfl, fun _ _ _ => rfl⟩

theorem Ext.trans {hp hp1 hp2 : Array Obj} {μ μ1 μ2 : Mu} (h : Ext hp μ hp1 μ1) (k : Ext hp1 μ1 hp2 μ2) : Ext hp μ hp2 μ2 := by
  refine ⟨Nat.le_trans h.size k.size, fun i hi hn => ?_, fun b L hb => ?_, k.res.trans h.res, fun i hi hr => ?_⟩
  rotate_right
  · rw [k.kept i (Nat.lt_of_lt_of_le hi h.size) (by rw [h.res]; exact hr), h.kept i hi hr]
  · obtain ⟨e1, n1⟩ := h.old i hi hn
    obtain ⟨e2, n2⟩ := k.old i (Nat.lt_of_lt_of_le hi h.size) n1
    exact ⟨e2.trans e1, n2⟩
  · obtain ⟨L1, h1, r1⟩ := h.mu b L hb
    obtain ⟨L2, h2, r2⟩ := k.mu b L1 h1
    refine ⟨L2, h2, ?_⟩
    rcases r1 with rfl | r1
    · exact r2
    · rcases r2 with rfl | r2
      · exact .inr r1
      · exact .inr (Nat.lt_trans r1 r2)

theorem ExtW.refl (w : World) (μ : Mu) : ExtW w μ w μ := ⟨Ext.refl _ _, rfl, rfl, rfl⟩

theorem ExtW.trans {w w1 w2 : World} {μ μ1 μ2 : Mu} (h : ExtW w μ w1 μ1) (k : ExtW w1 μ1 w2 μ2) : ExtW w μ w2 μ2 :=
  ⟨h.ext.trans k.ext, k.os.trans h.os, k.tape.trans h.tape, k.output.trans h.output⟩

theorem lt_of_heap {hp : Array Obj} {i : Nat} {o : Obj} (h : hp[i]? = some o) : i < hp.size := by
  rcases Nat.lt_or_ge i hp.size with hlt | hge
  · exact hlt
  · simp [Array.getElem?_eq_none hge] at h

theorem RelV.ext {hp hp' : Array Obj} {μ μ' : Mu} {v : T} {c : Value} (h : RelV hp μ v c) (x : Ext hp μ hp' μ') : RelV hp' μ' v c := by
  induction h with
  | undef => exact .undef
  | bool b => exact .bool b
  | int k n => exact .int k n
  | str s h => exact .str s h
  | nilp => exact .nilp
  | ptr b ep i j L a hb he ha =>
    obtain ⟨L', hb', r⟩ := x.mu b L hb
    refine .ptr b ep i j L' a hb' ?_ ?_
    · rcases r with rfl | r <;> omega
    · intro e
      rcases r with rfl | r
      · exact ha e
      · omega
  | tptr cells blk off arr t fz hn hh hs hc _ ih =>
    obtain ⟨e, n⟩ := x.old blk (lt_of_heap hh) hn
    exact .tptr cells blk off arr t fz n (e.trans hh) hs hc ih
  | tree0 full a => exact .tree0 full a
  | tree e es full blk off cap sz arr t fz hn hh hl hf hu hs hc _ ih =>
    obtain ⟨q, n⟩ := x.old blk (lt_of_heap hh) hn
    exact .tree e es full blk off cap sz arr t fz n (q.trans hh) hl hf hu hs hc ih
  | ewild a cap => exact .ewild a cap
  | arr b ep o l full L a cp hb he hl h =>
    obtain ⟨L', hb', r⟩ := x.mu b L hb
    refine .arr b ep o l full L' a cp hb' ?_ hl ?_
    · rcases r with rfl | r <;> omega
    · intro e
      rcases r with rfl | r
      · exact h e
      · omega
  | func f caps cs hs _ ih => exact .func f caps cs hs ih
  | nilf => exact .nilf
  | nili => exact .nili
  | iface t v c _ ih => exact .iface t v c ih
  | iter b L a hb h =>
    obtain ⟨L', hb', r⟩ := x.mu b L hb
    refine .iter b L' a hb' ?_
    intro e
    rcases r with rfl | r
    · exact h e
    · omega
  | map b L i hb h =>
    obtain ⟨L', hb', r⟩ := x.mu b L hb
    refine .map b L' i hb' ?_
    intro e
    rcases r with rfl | r
    · exact h e
    · omega
  | nilm => exact .nilm
  | agg cells cs hs hc _ ih => exact .agg cells cs hs hc ih
  | tuple vs cs hs _ ih => exact .tuple vs cs hs ih

/-- A list of cells stands for a row. -/
def RelL (hp : Array Obj) (μ : Mu) (vs : List T) (cs : List Value) : Prop :=
  vs.length = cs.length ∧ ∀ (k : Nat) v, vs[k]? = some v → RelV hp μ v (cs.getD k Go.undef)

theorem RelL.ext {hp hp' : Array Obj} {μ μ' : Mu} {vs : List T} {cs : List Value} (h : RelL hp μ vs cs) (x : Ext hp μ hp' μ') : RelL hp' μ' vs cs :=
  ⟨h.1, fun k v hv => (h.2 k v hv).ext x⟩

theorem RelL.nil {hp : Array Obj} {μ : Mu} : RelL hp μ [] [] := ⟨rfl, fun k v h => by simp at h⟩

theorem RelL.cons {hp : Array Obj} {μ : Mu} {v : T} {c : Value} {vs : List T} {cs : List Value} (h : RelV hp μ v c) (hs : RelL hp μ vs cs) : RelL hp μ (v :: vs) (c :: cs) := by
  refine ⟨by simp [hs.1], fun k x hx => ?_⟩
  cases k with
  | zero => simp at hx; subst hx; simpa using h
  | succ k => simp at hx; simpa using hs.2 k x hx

theorem RelL.uncons {hp : Array Obj} {μ : Mu} {v : T} {vs : List T} {cs : List Value} (h : RelL hp μ (v :: vs) cs) : ∃ c cs', cs = c :: cs' ∧ RelV hp μ v c ∧ RelL hp μ vs cs' := by
  obtain ⟨hl, hr⟩ := h
  cases cs with
  | nil => simp at hl
  | cons c cs' => exact ⟨c, cs', rfl, by simpa using hr 0 v (by simp), by simpa using hl, fun k x hx => by simpa using hr (k + 1) x (by simpa using hx)⟩

theorem RelL.append {hp : Array Obj} {μ : Mu} {vs vs' : List T} {cs cs' : List Value} (h : RelL hp μ vs cs) (h' : RelL hp μ vs' cs') : RelL hp μ (vs ++ vs') (cs ++ cs') := by
  induction vs generalizing cs with
  | nil => obtain ⟨hl, _⟩ := h; simp at hl; rw [List.eq_nil_of_length_eq_zero hl.symm]; simpa using h'
  | cons v vs ih => obtain ⟨c, cs1, rfl, hv, hs⟩ := h.uncons; exact RelL.cons hv (ih hs)

theorem RelL.take {hp : Array Obj} {μ : Mu} {vs : List T} {cs : List Value} (h : RelL hp μ vs cs) (n : Nat) : RelL hp μ (vs.take n) (cs.take n) := by
  induction n generalizing vs cs with
  | zero => simpa using RelL.nil
  | succ n ih => cases vs with
    | nil => obtain ⟨hl, _⟩ := h; simp at hl; rw [List.eq_nil_of_length_eq_zero hl.symm]; simpa using RelL.nil
    | cons v vs => obtain ⟨c, cs1, rfl, hv, hs⟩ := h.uncons; exact RelL.cons hv (ih hs)

theorem RelL.drop {hp : Array Obj} {μ : Mu} {vs : List T} {cs : List Value} (h : RelL hp μ vs cs) (n : Nat) : RelL hp μ (vs.drop n) (cs.drop n) := by
  induction n generalizing vs cs with
  | zero => simpa using h
  | succ n ih => cases vs with
    | nil => obtain ⟨hl, _⟩ := h; simp at hl; rw [List.eq_nil_of_length_eq_zero hl.symm]; simpa using RelL.nil
    | cons v vs => obtain ⟨c, cs1, rfl, _, hs⟩ := h.uncons; simpa using ih hs

theorem RelL.get {hp : Array Obj} {μ : Mu} {vs : List T} {cs : List Value} (h : RelL hp μ vs cs) {k : Nat} {v : T} (hv : vs[k]? = some v) : ∃ c, cs[k]? = some c ∧ RelV hp μ v c := by
  have hk : k < cs.length := by
    rw [← h.1]
    rcases Nat.lt_or_ge k vs.length with hlt | hge
    · exact hlt
    · simp [List.getElem?_eq_none hge] at hv
  refine ⟨cs[k], by simp [hk], ?_⟩
  simpa [List.getD, hk] using h.2 k v hv

theorem scalar_oneCell {hp : Array Obj} {μ : Mu} {v : T} {c : Value} (h : RelV hp μ v c) (hs : v.scalar = true) : c.oneCell' = true := by
  cases h <;> first | rfl | (simp [T.scalar] at hs)

/-- The cells of a value that is neither unset nor a tuple. -/
theorem RelV.cells {hp : Array Obj} {μ : Mu} {v : T} {c : Value} (h : RelV hp μ v c) (hg : v.good = true) :
    RelL hp μ v.cells c.cells.toList ∧ (∀ x ∈ v.cells, x.scalar = true) ∧ ∀ x ∈ c.cells.toList, x.oneCell' = true := by
  have one : ∀ {v : T} {c : Value}, RelV hp μ v c → v.scalar = true → v.cells = [v] → c.cells = #[c] →
      RelL hp μ v.cells c.cells.toList ∧ (∀ x ∈ v.cells, x.scalar = true) ∧ ∀ x ∈ c.cells.toList, x.oneCell' = true := by
    intro v c h hs hv hc
    rw [hv, hc]
    refine ⟨RelL.cons h RelL.nil, ?_, ?_⟩
    · intro x hx; simp at hx; rw [hx]; exact hs
    · intro x hx; simp at hx; rw [hx]; exact scalar_oneCell h hs
  cases h with
  | agg cells cs hs hc hr =>
    have hL : RelL hp μ cells cs.toList := ⟨by simp [hs], fun k v hv => by simpa [Array.getD_eq_getD_getElem?, List.getD] using hr k v hv⟩
    refine ⟨hL, hc, ?_⟩
    intro x hx0
    have hx : x ∈ cs.toList := hx0
    obtain ⟨k, hk, rfl⟩ := List.getElem_of_mem hx
    have hk' : k < cells.length := by simp at hk; omega
    have := hr k cells[k] (by simp [hk'])
    have h2 := scalar_oneCell this (hc _ (List.getElem_mem hk'))
    simp at hk
    simpa [Array.getD_eq_getD_getElem?, hk] using h2
  | undef => simp [T.good] at hg
  | tuple => simp [T.good] at hg
  | bool b => exact one (.bool b) rfl rfl rfl
  | int k n => exact one (.int k n) rfl rfl rfl
  | str s hb => exact one (.str s hb) rfl rfl rfl
  | nilp => exact one .nilp rfl rfl rfl
  | ptr b ep i j L a hb he ha => exact one (.ptr b ep i j L a hb he ha) rfl rfl rfl
  | tptr cells blk off arr t fz hn hh hs hc hr => exact one (.tptr cells blk off arr t fz hn hh hs hc hr) rfl rfl rfl
  | tree0 full a => exact one (.tree0 full a) rfl rfl rfl
  | tree e es full blk off cap sz arr t fz hn hh hl hf hu hs hc hr => exact one (.tree e es full blk off cap sz arr t fz hn hh hl hf hu hs hc hr) rfl rfl rfl
  | ewild a cap => exact one (.ewild a cap) rfl rfl rfl
  | arr b ep o l full L a cp hb he hl h => exact one (.arr b ep o l full L a cp hb he hl h) rfl rfl rfl
  | func f caps cs hs hr => exact one (.func f caps cs hs hr) rfl rfl rfl
  | nilf => exact one .nilf rfl rfl rfl
  | nili => exact one .nili rfl rfl rfl
  | iface t v c h => exact one (.iface t v c h) rfl rfl rfl
  | iter b L a hb h => exact one (.iter b L a hb h) rfl rfl rfl
  | map b L i hb h => exact one (.map b L i hb h) rfl rfl rfl
  | nilm => exact one .nilm rfl rfl rfl

/-! ### Boxes and the state -/

/-- A box's cells lie in its block. -/
structure CellsOk (hp : Array Obj) (μ : Mu) (L : Loc) (exact_ : Bool) (elems : List T) : Prop where
  row : ∃ arr t, hp[L.blk]? = some (.cells arr t (0, 0)) ∧ arr.size = L.cap * L.sz ∧ RelL hp μ (flat elems) (arr.toList.take (flat elems).length)
  room : elems.length ≤ L.cap
  exact_ : exact_ = true → L.cap = elems.length
  size : ∀ v ∈ elems, v.cells.length = L.sz
  scalar : ∀ v ∈ flat elems, v.scalar = true

/-- A map's entries, in the order in which they came. -/
def MapOk (hp : Array Obj) (μ : Mu) (L : Loc) (elems : List T) : Prop :=
  ∃ es : Array MapEntry, hp[L.blk]? = some (.map es es.size) ∧ es.size = elems.length ∧
    ∀ (i : Nat) x, elems[i]? = some x → ∃ k v me, x = .tuple [k, v] ∧ es[i]? = some me ∧ me.born = i ∧ RelV hp μ k me.key ∧ RelV hp μ v me.val

/-- An iterator over a map. -/
def MIter (hp : Array Obj) (μ : Mu) (L : Loc) (elems : List T) : Prop :=
  ∃ mb m pos since c0, elems = [.map mb, .int .i64 (.ofNat pos), .int .i64 (.ofNat since), .int .i64 (.ofNat c0)] ∧ RelV hp μ (.map mb) (.map (some m)) ∧ since ≤ c0 ∧
    hp[L.blk]? = some (.mapIter (some m) since (Array.range pos) c0)

structure BoxOk (hp : Array Obj) (μ : Mu) (L : Loc) (x : Box) : Prop where
  ep : x.ep = L.ep
  sz : x.sz = L.sz
  plain : x.it = false → CellsOk hp μ L x.exact x.elems
  iter : x.it = true → x.ep = 0 ∧ ((∃ s pos, x.elems = [.str s, .int .i64 (.ofNat pos)] ∧ (∀ c ∈ s, c < 256) ∧ hp[L.blk]? = some (.stringIter (bytesOf s) pos)) ∨ MapOk hp μ L x.elems ∨ MIter hp μ L x.elems)

/-- The interpreter's heap stands for the model's; 'base': below it nothing is a box's. -/
structure St (cx : Ctx) (base : Nat) (hp : Array Obj) (μ : Mu) (h : H) : Prop where
  wf : h.boxes.length = h.size
  fit : base ≤ hp.size
  box : ∀ b L, μ b = some L → ∃ x, h.get b = some x ∧ BoxOk hp μ L x
  inj : ∀ b b' L L', μ b = some L → μ b' = some L' → L.blk = L'.blk → b = b'
  low : ∀ b L, μ b = some L → base ≤ L.blk
  apart : ∀ b L, μ b = some L → ¬ μ.res L.blk
  resLt : ∀ i, μ.res i → i < hp.size
  glob : ∀ g cs, cx.gl g = some cs → RelV hp μ (.tptr cs) (.pointer (some ⟨g, 0, none⟩))

theorem CellsOk.ext {hp hp' : Array Obj} {μ μ' : Mu} {L : Loc} {x : Bool} {es : List T} (h : CellsOk hp μ L x es) (e : Ext hp μ hp' μ') (hb : hp'[L.blk]? = hp[L.blk]?) : CellsOk hp' μ' L x es := by
  obtain ⟨arr, t, h1, h2, h3⟩ := h.row
  exact ⟨⟨arr, t, hb.trans h1, h2, h3.ext e⟩, h.room, h.exact_, h.size, h.scalar⟩

theorem BoxOk.ext {hp hp' : Array Obj} {μ μ' : Mu} {L : Loc} {x : Box} (h : BoxOk hp μ L x) (e : Ext hp μ hp' μ') (hb : hp'[L.blk]? = hp[L.blk]?) : BoxOk hp' μ' L x :=
  ⟨h.ep, h.sz, fun k => (h.plain k).ext e hb, fun k => by
    obtain ⟨h0, ⟨s, pos, h1, h2, h3⟩ | ⟨es, h1, h2, h3⟩ | ⟨mb, m, pos, since, c0, h1, h2, h3, h4⟩⟩ := h.iter k
    · exact ⟨h0, .inl ⟨s, pos, h1, h2, hb.trans h3⟩⟩
    · refine ⟨h0, .inr (.inl ⟨es, hb.trans h1, h2, fun i x hx => ?_⟩)⟩
      obtain ⟨k, v, me, g1, g2, g3, g4, g5⟩ := h3 i x hx
      exact ⟨k, v, me, g1, g2, g3, g4.ext e, g5.ext e⟩
    · exact ⟨h0, .inr (.inr ⟨mb, m, pos, since, c0, h1, h2.ext e, h3, hb.trans h4⟩)⟩⟩

theorem BoxOk.lt {hp : Array Obj} {μ : Mu} {L : Loc} {x : Box} (h : BoxOk hp μ L x) : L.blk < hp.size := by
  cases hi : x.it with
  | false => obtain ⟨arr, t, h1, _⟩ := (h.plain hi).row; exact lt_of_heap h1
  | true =>
    obtain ⟨_, ⟨s, pos, _, _, h3⟩ | ⟨es, h1, _⟩ | ⟨_, _, _, _, _, _, _, _, h4⟩⟩ := h.iter hi
    · exact lt_of_heap h3
    · exact lt_of_heap h1
    · exact lt_of_heap h4

theorem St.lt {cx : Ctx} {base : Nat} {hp : Array Obj} {μ : Mu} {h : H} (s : St cx base hp μ h) {b : Nat} {L : Loc} (hb : μ b = some L) : L.blk < hp.size := by
  obtain ⟨x, _, hx⟩ := s.box b L hb
  exact hx.lt

end Go.TI

/- What the tables say of types; operands. -/
namespace Go.TI
section
variable {P : Program} {cx : Ctx}

/-- The table's row of a type is right. -/
structure TyOk (P : Program) (t : TypeId) (ty : Ty) : Prop where
  is : ∃ cmp, tyOf P t cmp = some ty

theorem toNat_ofNat_lt {c : Nat} (h : c < 256) : (UInt8.ofNat c).toNat = c := by
  simp [UInt8.toNat_ofNat']; omega

theorem bytesN_eq (l : List UInt8) : bytesN l = some (l.map UInt8.toNat) := by
  induction l with
  | nil => rfl
  | cons x l ih =>
    show (bnd (normNat x.toNat) fun y => bnd (bytesN l) fun t => some (y :: t)) = _
    rw [ih]; simp

theorem bytesOf_toNat (s : ByteArray) : bytesOf (s.data.toList.map UInt8.toNat) = s := by
  unfold bytesOf
  rw [List.map_map]
  have : (UInt8.ofNat ∘ UInt8.toNat) = id := by funext x; simp
  rw [this]; simp

theorem RelV.ofCell {hp : Array Obj} {μ : Mu} {v : Value} {x : T} (h : ofCell v = some x) : RelV hp μ x v ∧ x.scalar = true := by
  unfold TI.ofCell at h
  split at h
  · simp at h; subst h; exact ⟨.bool _, rfl⟩
  · simp at h; subst h; exact ⟨.int _ _, rfl⟩
  · rename_i s
    rw [bytesN_eq] at h
    simp at h; subst h
    refine ⟨?_, rfl⟩
    have := RelV.str (hp := hp) (μ := μ) (s.data.toList.map UInt8.toNat) (by intro c hc; simp at hc; obtain ⟨a, _, rfl⟩ := hc; exact a.toNat_lt)
    rwa [bytesOf_toNat] at this
  · simp at h; subst h; exact ⟨.nilp, rfl⟩
  · simp at h; subst h; exact ⟨.nilm, rfl⟩
  · simp at h; subst h; exact ⟨.tree0 _ _, rfl⟩
  · simp at h; subst h; exact ⟨.nilf, rfl⟩
  · simp at h; subst h; exact ⟨.nili, rfl⟩
  · simp at h

theorem RelL.ofCells {hp : Array Obj} {μ : Mu} {l : List Value} {r : List T} (h : mapOpt TI.ofCell l = some r) : RelL hp μ r l ∧ ∀ v ∈ r, v.scalar = true := by
  obtain ⟨hl, hk⟩ := mapOpt_eq_some.1 h
  refine ⟨⟨hl.symm, fun k v hv => ?_⟩, fun v hv => ?_⟩
  · have hlt : k < l.length := by
      rcases Nat.lt_or_ge k r.length with a | a
      · omega
      · simp [List.getElem?_eq_none a] at hv
    obtain ⟨y, hy, hf⟩ := hk k l[k] (by simp [hlt])
    rw [hv] at hy; simp at hy; subst hy
    simpa [List.getD, hlt] using (RelV.ofCell hf).1
  · obtain ⟨k, hlt, rfl⟩ := List.getElem_of_mem hv
    have hlt' : k < l.length := by omega
    obtain ⟨y, hy, hf⟩ := hk k l[k] (by simp [hlt'])
    simp [hlt] at hy; subst hy
    exact (RelV.ofCell (hp := hp) (μ := μ) hf).2

theorem RelV.aggOf {hp : Array Obj} {μ : Mu} {vs : List T} {cs : Array Value} (h : RelL hp μ vs cs.toList) (hs : ∀ v ∈ vs, v.scalar = true) : RelV hp μ (.agg vs) (.agg cs) :=
  .agg vs cs (by simpa using h.1.symm) hs fun k v hv => by simpa [Array.getD_eq_getD_getElem?, List.getD] using h.2 k v hv

theorem RelV.ofConst {hp : Array Obj} {μ : Mu} {v : Value} {x : T} (h : ofConst v = some x) : RelV hp μ x v := by
  unfold TI.ofConst at h
  split at h
  · rename_i cs
    obtain ⟨r, h1, h2⟩ := bnd_eq_some.1 h
    simp at h2; subst h2
    obtain ⟨hL, hs⟩ := RelL.ofCells (hp := hp) (μ := μ) h1
    exact RelV.aggOf hL hs
  · exact (RelV.ofCell h).1

/-! ### types -/

theorem TyOk.unfold {t : TypeId} {ty : Ty} (h : TyOk P t ty) : ∃ i d z, P.info? t = some i ∧ P.underlying t = some d ∧ i.zero = some z ∧ mapOpt ofCell z.cells.toList = some ty.zero ∧
    uOf P d = some ty.u ∧ zeroFits d z = true ∧ ty.zero.length = i.size ∧ i.size = ty.size ∧ i.bytes = ty.bytes ∧
    (ty.cmp = true → P.stoodInHeld t = false ∧ P.eqGuardType P.depth t = false ∧ namesOk d = true) := by
  obtain ⟨cmp, h⟩ := h.is
  unfold tyOf at h
  obtain ⟨i, h1, h⟩ := bnd_eq_some.1 h
  obtain ⟨d, h2, h⟩ := bnd_eq_some.1 h
  obtain ⟨z, h3, h⟩ := bnd_eq_some.1 h
  obtain ⟨zs, h4, h⟩ := bnd_eq_some.1 h
  obtain ⟨u, h5, h⟩ := bnd_eq_some.1 h
  obtain ⟨h6, h⟩ := chk_eq_some.1 h
  obtain ⟨h7, h⟩ := chk_eq_some.1 h
  obtain ⟨h8, h⟩ := chk_eq_some.1 h
  simp at h
  rw [← h]
  refine ⟨i, d, z, h1, h2, h3, h4, h5, h6, ?_, rfl, rfl, ?_⟩
  · rw [lenN_eq] at h7
    exact Nat.eq_of_beq_eq_true h7
  · intro hc
    simp only [] at hc
    rw [hc] at h8
    simp at h8
    exact ⟨h8.1.1, h8.1.2, h8.2⟩

theorem TyOk.run_sizeOf {t : TypeId} {ty : Ty} (h : TyOk P t ty) (w : World) : (sizeOf t).run P w = .ok ty.size w := by
  obtain ⟨i, d, z, h1, _, _, _, _, _, _, h8, _⟩ := h.unfold
  simp [sizeOf, typeInfo, h1, h8]

theorem TyOk.run_typeInfo {t : TypeId} {ty : Ty} (h : TyOk P t ty) (w : World) : ∃ i, (typeInfo t).run P w = .ok i w ∧ i.bytes = ty.bytes ∧ i.size = ty.size := by
  obtain ⟨i, d, z, h1, _, _, _, _, _, _, h8, h9, _⟩ := h.unfold
  exact ⟨i, by simp [typeInfo, h1], h9, h8⟩

def aggD : TypeDesc → Bool
  | .struct _ | .array _ _ => true
  | _ => false

theorem isAgg_uOf {d : TypeDesc} {ty : Ty} (h : uOf P d = some ty.u) : ty.isAgg = aggD d := by
  unfold Ty.isAgg
  cases d <;> simp only [uOf] at h <;> first | (injection h with h; rw [← h]; rfl) | (split at h <;> simp at h; rw [← h]; rfl)

theorem TyOk.run_isAgg {t : TypeId} {ty : Ty} (h : TyOk P t ty) (w : World) : (isAgg t).run P w = .ok ty.isAgg w := by
  obtain ⟨i, d, z, _, h2, _, _, h5, _⟩ := h.unfold
  rw [isAgg_uOf h5]
  simp only [isAgg, Sem.run_bind, run_underlying h2, Result.andThen_ok]
  cases d <;> rfl

theorem TyOk.zero {t : TypeId} {ty : Ty} (h : TyOk P t ty) (w : World) : ∃ z, (zeroValue t).run P w = .ok z w ∧ (∀ hp μ, RelV hp μ ty.zeroT z) ∧ (∀ hp μ, RelL hp μ ty.zero z.cells.toList) ∧
    (∀ v ∈ ty.zero, v.scalar = true) ∧ ty.zero.length = ty.size ∧ ty.zeroT.cells = ty.zero ∧ ty.zeroT.good = true ∧ z.cells.size = ty.size := by
  obtain ⟨i, d, z, h1, h2, h3, h4, h5, h6, h7, h8, h9, _⟩ := h.unfold
  have hsc := (RelL.ofCells (hp := #[]) (μ := ⟨fun _ => none, fun _ => False⟩) h4).2
  have hlen : ty.zero.length = z.cells.size := by
    have := (RelL.ofCells (hp := #[]) (μ := ⟨fun _ => none, fun _ => False⟩) h4).1.1
    simpa using this
  refine ⟨z, by simp [zeroValue, typeInfo, h1, h3], ?_, fun hp μ => (RelL.ofCells h4).1, hsc, by omega, ?_⟩
  · intro hp μ
    have hL := (RelL.ofCells (hp := hp) (μ := μ) h4).1
    unfold Ty.zeroT
    rw [isAgg_uOf h5]
    cases d with
    | struct fs => cases z with
      | agg cs => exact RelV.aggOf hL hsc
      | _ => simp [zeroFits] at h6
    | array n e => cases z with
      | agg cs => exact RelV.aggOf hL hsc
      | _ => simp [zeroFits] at h6
    | _ =>
      have hz : z.cells = #[z] := by cases z <;> simp [zeroFits] at h6 <;> rfl
      rw [hz] at hL
      obtain ⟨hl, _⟩ := hL
      simp at hl
      match hzz : ty.zero, hl with
      | [x], _ =>
        have hL := (RelL.ofCells (hp := hp) (μ := μ) h4).1
        rw [hz, hzz] at hL
        obtain ⟨c, cs, hcs, hv, _⟩ := hL.uncons
        simp at hcs
        show RelV hp μ x z
        rw [hcs.1]; exact hv
  · have hagg := isAgg_uOf h5
    have hcase : (ty.isAgg = true ∧ ty.zeroT = .agg ty.zero) ∨ (ty.isAgg = false ∧ ∃ x, ty.zero = [x] ∧ ty.zeroT = x ∧ x.scalar = true) := by
      cases hb : ty.isAgg with
      | true => left; exact ⟨rfl, by unfold Ty.zeroT; rw [hb]⟩
      | false =>
        right
        refine ⟨rfl, ?_⟩
        have hz : z.cells = #[z] := by
          rw [hb] at hagg
          cases d <;> simp [aggD] at hagg <;> cases z <;> simp [zeroFits] at h6 <;> rfl
        rw [hz] at hlen
        simp at hlen
        match hzz : ty.zero, hlen with
        | [x], _ => exact ⟨x, rfl, by unfold Ty.zeroT; rw [hb, hzz]; rfl, hsc x (by simp [hzz])⟩
    rcases hcase with ⟨_, h⟩ | ⟨_, x, hx, h, hs⟩
    · rw [h]; exact ⟨rfl, rfl, by omega⟩
    · rw [h, hx]
      refine ⟨?_, ?_, by omega⟩
      · cases x <;> simp [T.scalar] at hs <;> rfl
      · cases x <;> simp [T.scalar] at hs <;> rfl

/-- The tables are right. -/
structure TysOk (P : Program) (cx : Ctx) : Prop where
  ty : ∀ t ty, cx.ty t = some ty → TyOk P t ty

/-! ### operands -/

/-- The slots stand for the frame's. -/
def RelE (hp : Array Obj) (μ : Mu) (mask : Nat) (e : Env) (tmps : Array Value) : Prop :=
  ∀ s v, e.get mask s = some v → RelV hp μ v (tmps.getD s Go.undef)

theorem RelE.ext {hp hp' : Array Obj} {μ μ' : Mu} {mask : Nat} {e : Env} {tmps : Array Value} (h : RelE hp μ mask e tmps) (x : Ext hp μ hp' μ') : RelE hp' μ' mask e tmps :=
  fun s v hv => (h s v hv).ext x

theorem opnd_sound {base : Nat} {hp : Array Obj} {μ : Mu} {h : H} {mask : Nat} {e : Env} {a : Act} (s : St cx base hp μ h) (r : RelE hp μ mask e a.tmps) {o : Operand} {v : T}
    (ho : opnd cx mask e o = some v) : RelV hp μ v (a.eval o) := by
  cases o with
  | tmp t => exact r t v ho
  | const c => exact RelV.ofConst ho
  | global g =>
    obtain ⟨cs, h1, h2⟩ := bnd_eq_some.1 ho
    simp at h2; subst h2
    exact s.glob g cs h1
  | func f =>
    have : T.func f [] = v := by simpa [opnd] using ho
    subst this
    exact .func f [] #[] rfl fun k v hv => by simp at hv

theorem opnds_sound {base : Nat} {hp : Array Obj} {μ : Mu} {h : H} {mask : Nat} {e : Env} {a : Act} (s : St cx base hp μ h) (r : RelE hp μ mask e a.tmps) {l : List Operand} {vs : List T}
    (ho : opnds cx mask e l = some vs) : RelL hp μ vs (l.map a.eval) := by
  induction l generalizing vs with
  | nil => simp [opnds] at ho; subst ho; exact RelL.nil
  | cons o l ih =>
    unfold opnds at ho
    rw [mapOpt_cons] at ho
    obtain ⟨x, h1, ho⟩ := bnd_eq_some.1 ho
    obtain ⟨t, h2, ho⟩ := bnd_eq_some.1 ho
    simp at ho; subst ho
    exact RelL.cons (opnd_sound s r h1) (ih h2)
end
end Go.TI

/- Operations that leave the world as it is. -/
namespace Go.TI
section inv
variable {hp : Array Obj} {μ : Mu} {c : Value}
theorem RelV.inv_undef (h : RelV hp μ .undef c) : c = .tuple #[] := by cases h; rfl
theorem RelV.inv_bool {b : Bool} (h : RelV hp μ (.bool b) c) : c = .bool b := by cases h; rfl
theorem RelV.inv_int {k : IntKind} {n : Int} (h : RelV hp μ (.int k n) c) : c = .int k n := by cases h; rfl
theorem RelV.inv_str {s : List Nat} (h : RelV hp μ (.str s) c) : c = .string (bytesOf s) ∧ ∀ x ∈ s, x < 256 := by cases h; exact ⟨rfl, by assumption⟩
theorem RelV.inv_nilp (h : RelV hp μ .nilp c) : c = .pointer none := by cases h; rfl
theorem RelV.inv_ptr {b ep i j : Nat} (h : RelV hp μ (.ptr b ep i j) c) : ∃ L a, c = .pointer (some a) ∧ μ b = some L ∧ ep ≤ L.ep ∧ (ep = L.ep → a = ⟨L.blk, i * L.sz + j, none⟩) := by
  cases h with | ptr _ _ _ _ L a hb he ha => exact ⟨L, a, rfl, hb, he, ha⟩
theorem RelV.inv_tptr {cells : List T} (h : RelV hp μ (.tptr cells) c) : ∃ blk off arr t fz, c = .pointer (some ⟨blk, off, none⟩) ∧ ¬ InMu μ blk ∧ hp[blk]? = some (.cells arr t fz) ∧
    off + cells.length ≤ arr.size ∧ (∀ v ∈ cells, Shut v) ∧ ∀ (k : Nat) v, cells[k]? = some v → RelV hp μ v (arr.getD (off + k) Go.undef) := by
  cases h with | tptr _ blk off arr t fz hn hh hs hc hr => exact ⟨blk, off, arr, t, fz, rfl, hn, hh, hs, hc, hr⟩
theorem RelV.inv_arr {b ep o l : Nat} {full : Bool} (h : RelV hp μ (.arr b ep o l full) c) : ∃ L a cp, c = .slice a l cp ∧ μ b = some L ∧ ep ≤ L.ep ∧ l ≤ cp ∧
    (ep = L.ep → (full = true → cp = l) ∧ (full = false → o + cp = L.cap) ∧ (cp ≠ 0 → a = some ⟨L.blk, o * L.sz, none⟩)) := by
  cases h with | arr _ _ _ _ _ L a cp hb he hl h => exact ⟨L, a, cp, rfl, hb, he, hl, h⟩
theorem RelV.inv_ewild (h : RelV hp μ .ewild c) : ∃ a cap, c = .slice a 0 cap := by cases h; exact ⟨_, _, rfl⟩
theorem RelV.inv_tree0 {full : Bool} (h : RelV hp μ (.tree [] full) c) : ∃ a, c = .slice a 0 0 := by cases h; exact ⟨_, rfl⟩
theorem RelV.inv_tree {x : T} {es : List T} {full : Bool} (h : RelV hp μ (.tree (x :: es) full) c) : ∃ blk off cap sz arr t fz, c = .slice (some ⟨blk, off, none⟩) (es.length + 1) cap ∧ ¬ InMu μ blk ∧
    hp[blk]? = some (.cells arr t fz) ∧ es.length + 1 ≤ cap ∧ (full = true → cap = es.length + 1) ∧ (∀ v ∈ x :: es, v.cells.length = sz) ∧ off + (flat (x :: es)).length ≤ arr.size ∧
    (∀ v ∈ flat (x :: es), Shut v) ∧ ∀ (k : Nat) v, (flat (x :: es))[k]? = some v → RelV hp μ v (arr.getD (off + k) Go.undef) := by
  cases h with | tree _ _ _ blk off cap sz arr t fz hn hh hl hf hu hs hc hr => exact ⟨blk, off, cap, sz, arr, t, fz, rfl, hn, hh, hl, hf, hu, hs, hc, hr⟩
theorem RelV.inv_func {f : FuncId} {caps : List T} (h : RelV hp μ (.func f caps) c) : ∃ cs, c = .func (.func f) #[] cs ∧ RelL hp μ caps cs.toList := by
  cases h with | func _ _ cs hs hr => exact ⟨cs, rfl, by simpa using hs.symm, fun k v hv => by simpa [Array.getD_eq_getD_getElem?, List.getD] using hr k v hv⟩
theorem RelV.inv_nilf (h : RelV hp μ .nilf c) : c = .nilFunc := by cases h; rfl
theorem RelV.inv_nili (h : RelV hp μ .nili c) : c = .nilIface := by cases h; rfl
theorem RelV.inv_iface {t : TypeId} {v : T} (h : RelV hp μ (.iface t v) c) : ∃ d, c = .iface t d := by cases h; exact ⟨_, rfl⟩
theorem RelV.inv_iter {b : Nat} (h : RelV hp μ (.iter b) c) : ∃ L a, c = .pointer (some a) ∧ μ b = some L ∧ (L.ep = 0 → a = ⟨L.blk, 0, none⟩) := by
  cases h with | iter _ L a hb h => exact ⟨L, a, rfl, hb, h⟩
theorem RelV.inv_map {b : Nat} (h : RelV hp μ (.map b) c) : ∃ L i, c = .map (some i) ∧ μ b = some L ∧ (L.ep = 0 → i = L.blk) := by
  cases h with | map _ L i hb h => exact ⟨L, i, rfl, hb, h⟩
theorem RelV.inv_nilm (h : RelV hp μ .nilm c) : c = .map none := by cases h; rfl
theorem RelV.inv_agg {cells : List T} (h : RelV hp μ (.agg cells) c) : ∃ cs, c = .agg cs ∧ RelL hp μ cells cs.toList ∧ ∀ v ∈ cells, v.scalar = true := by
  cases h with | agg _ cs hs hc hr => exact ⟨cs, rfl, ⟨by simpa using hs.symm, fun k v hv => by simpa [Array.getD_eq_getD_getElem?, List.getD] using hr k v hv⟩, hc⟩
theorem RelV.inv_tuple {vs : List T} (h : RelV hp μ (.tuple vs) c) : ∃ cs, c = .tuple cs ∧ RelL hp μ vs cs.toList := by
  cases h with | tuple _ cs hs hr => exact ⟨cs, rfl, by simpa using hs.symm, fun k v hv => by simpa [Array.getD_eq_getD_getElem?, List.getD] using hr k v hv⟩
end inv

section
variable {P : Program} {cx : Ctx} {base : Nat} {w : World} {μ : Mu} {h : H} {mask : Nat} {e : Env} {a : Act} {o : Oper}

/-- Which boxes are new. -/
def Dom (μ μ' : Mu) (n n' : Nat) : Prop := n ≤ n' ∧ (∀ b, μ' b ≠ none → μ b ≠ none ∨ (n ≤ b ∧ b < n')) ∧ ∀ b, n ≤ b → b < n' → μ' b ≠ none

theorem Dom.refl (μ : Mu) (n : Nat) : Dom μ μ n n := ⟨Nat.le_refl _, fun _ h => .inl h, fun b h1 h2 => absurd h2 (by omega)⟩

theorem Dom.trans {hp hp1 hp2 : Array Obj} {μ μ1 μ2 : Mu} {n n1 n2 : Nat} (h : Dom μ μ1 n n1) (k : Dom μ1 μ2 n1 n2) (x : Ext hp1 μ1 hp2 μ2) : Dom μ μ2 n n2 := by
  have h1 := h.1
  have k1 := k.1
  refine ⟨Nat.le_trans h.1 k.1, fun b hb => ?_, fun b hb hb' => ?_⟩
  · rcases k.2.1 b hb with x | x
    · rcases h.2.1 b x with y | y
      · exact .inl y
      · exact .inr ⟨y.1, by omega⟩
    · exact .inr ⟨by omega, x.2⟩
  · by_cases hn : b < n1
    · obtain ⟨L, hL⟩ := Option.ne_none_iff_exists'.1 (h.2.2 b hb hn)
      obtain ⟨L', hL', _⟩ := x.mu b L hL
      rw [hL']; simp
    · exact k.2.2 b (by omega) hb'

/-- What an operation comes to in the model: a value that the interpreter's stands for, in a world for which its heap stands. -/
def Done (cx : Ctx) (base : Nat) (w : World) (μ : Mu) (n : Nat) (r : Result Next) (v : T) (h' : H) : Prop :=
  ∃ c w' μ', (r = .ok (.value c) w' ∨ (r = .ok .skip w' ∧ c = Go.undef)) ∧ RelV w'.heap μ' v c ∧ St cx base w'.heap μ' h' ∧ ExtW w μ w' μ' ∧ Dom μ μ' n h'.size

theorem Done.pure {r : Result Next} {v : T} {c : Value} (s : St cx base w.heap μ h) (hr : r = .ok (.value c) w) (hv : RelV w.heap μ v c) : Done cx base w μ h.size r v h :=
  ⟨c, w, μ, .inl hr, hv, s, ExtW.refl _ _, Dom.refl _ _⟩

theorem val_eq_some {h h' : H} {x : Option T} {v : T} : val h x = some (.val v h') ↔ x = some v ∧ h' = h := by
  unfold val
  cases x with
  | none => simp
  | some y => simp; intro _; exact eq_comm

theorem val_ne_call {h : H} {x : Option T} {f : FuncId} {args : List T} : val h x ≠ some (.call f args) := by
  unfold val
  cases x <;> simp

theorem hMove_sound {x : Operand} (s : St cx base w.heap μ h) (r : RelE w.heap μ mask e a.tmps) (ho : o.op = .move x ∨ o.op = .assign x) {v : T} {h' : H}
    (hh : hMove x cx mask e h = some (.val v h')) : Done cx base w μ h.size ((execOp a.eval o).run P w) v h' := by
  obtain ⟨hv, rfl⟩ := val_eq_some.1 hh
  refine Done.pure s ?_ (opnd_sound s r hv)
  rcases ho with ho | ho <;> simp [execOp, ho]

theorem hPick_sound {c x y : Operand} (s : St cx base w.heap μ h) (r : RelE w.heap μ mask e a.tmps) (ho : o.op = .pick c x y) {v : T} {h' : H}
    (hh : hPick c x y cx mask e h = some (.val v h')) : Done cx base w μ h.size ((execOp a.eval o).run P w) v h' := by
  obtain ⟨b, hb, hh⟩ := bnd_eq_some.1 hh
  have hc := opnd_sound s r hb
  cases b <;> simp at hh
  rename_i b
  have heq := hc.inv_bool
  cases b with
  | false =>
    obtain ⟨hv, rfl⟩ := val_eq_some.1 hh
    exact Done.pure s (by simp [execOp, ho, heq, asBool]) (opnd_sound s r hv)
  | true =>
    obtain ⟨hv, rfl⟩ := val_eq_some.1 hh
    exact Done.pure s (by simp [execOp, ho, heq, asBool]) (opnd_sound s r hv)

theorem hNilCheck_sound {x : Operand} (s : St cx base w.heap μ h) (r : RelE w.heap μ mask e a.tmps) (ho : o.op = .nilCheck x) {v : T} {h' : H}
    (hh : hNilCheck x cx mask e h = some (.val v h')) : Done cx base w μ h.size ((execOp a.eval o).run P w) v h' := by
  obtain ⟨b, hb, hh⟩ := bnd_eq_some.1 hh
  have hc := opnd_sound s r hb
  cases b <;> simp at hh
  · obtain ⟨rfl, rfl⟩ := hh
    obtain ⟨L, ad, hq, _⟩ := hc.inv_ptr
    exact Done.pure s (by simp [execOp, ho, hq]) (hq ▸ hc)
  · obtain ⟨rfl, rfl⟩ := hh
    obtain ⟨blk, off, arr, t, fz, hq, _⟩ := hc.inv_tptr
    exact Done.pure s (by simp [execOp, ho, hq]) (hq ▸ hc)
  · obtain ⟨rfl, rfl⟩ := hh
    obtain ⟨cs, hq, _⟩ := hc.inv_func
    exact Done.pure s (by simp [execOp, ho, hq]) (hq ▸ hc)

theorem hIface_sound (tys : TysOk P cx) {t : TypeId} {x : Operand} (s : St cx base w.heap μ h) (r : RelE w.heap μ mask e a.tmps) (ho : o.op = .makeInterface t x) {v : T} {h' : H}
    (hh : hIface t x cx mask e h = some (.val v h')) : Done cx base w μ h.size ((execOp a.eval o).run P w) v h' := by
  obtain ⟨ty, hty, hh⟩ := bnd_eq_some.1 hh
  obtain ⟨i, d, z, h1, h2, h3, h4, h5, _⟩ := (tys.ty t ty hty).unfold
  have key : ∀ {h'' : H}, (bnd (opnd cx mask e x) fun a => chk a.good (val h (some (.iface t a)))) = some (.val v h'') → (∀ ms, d ≠ .interface ms) → Done cx base w μ h.size ((execOp a.eval o).run P w) v h'' := by
    intro h'' hh hd
    obtain ⟨b, hb, hh⟩ := bnd_eq_some.1 hh
    obtain ⟨_, hh⟩ := chk_eq_some.1 hh
    obtain ⟨hv, rfl⟩ := val_eq_some.1 hh
    simp at hv; subst hv
    refine Done.pure (c := .iface t (a.eval x)) s ?_ (.iface t b _ (opnd_sound s r hb))
    simp only [execOp, ho, Instr.makeInterface, Sem.run_bind, run_underlying h2, Result.andThen_ok]
    cases d <;> first | rfl | exact absurd rfl (hd _)
  cases hu : ty.u <;> rw [hu] at hh h5 <;> first | (exact key hh (by rintro ms rfl; simp [uOf] at h5)) | (simp at hh)

theorem hFunc_sound {fn : Fn} {first captured : Array Operand} (s : St cx base w.heap μ h) (r : RelE w.heap μ mask e a.tmps) (ho : o.op = .makeFunc fn first captured) {v : T} {h' : H}
    (hh : hFunc fn first captured cx mask e h = some (.val v h')) : Done cx base w μ h.size ((execOp a.eval o).run P w) v h' := by
  unfold hFunc at hh
  split at hh
  · rename_i f
    split at hh
    · rename_i hf
      obtain ⟨cs, hcs, hh⟩ := bnd_eq_some.1 hh
      obtain ⟨hv, rfl⟩ := val_eq_some.1 hh
      simp at hv; subst hv
      have hL := opnds_sound s r hcs
      refine Done.pure (c := .func (.func f) #[] (captured.map a.eval)) s ?_ (.func f cs _ (by simpa using hL.1.symm) fun k v hv => ?_)
      · have : first = #[] := by cases first; simpa using hf
        simp [execOp, ho, Instr.makeFunc, this]
      · have := hL.2 k v hv
        simpa [Array.getD_eq_getD_getElem?, List.getD] using this
    · simp at hh
  · simp at hh

theorem hExtract_sound {x : Operand} {i : Nat} (s : St cx base w.heap μ h) (r : RelE w.heap μ mask e a.tmps) (ho : o.op = .extract x i) {v : T} {h' : H}
    (hh : hExtract x i cx mask e h = some (.val v h')) : Done cx base w μ h.size ((execOp a.eval o).run P w) v h' := by
  obtain ⟨b, hb, hh⟩ := bnd_eq_some.1 hh
  have hc := opnd_sound s r hb
  cases b <;> simp at hh
  obtain ⟨hv, rfl⟩ := val_eq_some.1 hh
  obtain ⟨cs, hq, hL⟩ := hc.inv_tuple
  obtain ⟨c, hc1, hc2⟩ := hL.get hv
  exact Done.pure s (by simp only [execOp, ho, hq, Instr.extract]; simp at hc1; simp [hc1]) hc2

end
end Go.TI

/- Operators. -/
namespace Go.TI
section
variable {P : Program} {cx : Ctx} {base : Nat} {w : World} {μ : Mu} {h : H} {mask : Nat} {e : Env} {a : Act} {o : Oper} {hp : Array Obj}

theorem int2_eq_some {x y v : T} {f : IntKind → Int → Int → Option T} (h : int2 x y f = some v) : ∃ k m n, x = .int k m ∧ y = .int k n ∧ f k m n = some v := by
  unfold int2 at h
  split at h
  · rename_i k m
    split at h
    · rename_i k' n
      obtain ⟨h1, h2⟩ := chk_eq_some.1 h
      rw [kEq_eq] at h1; subst h1
      exact ⟨k, m, n, rfl, rfl, h2⟩
    · simp at h
  · simp at h

theorem shift2_eq_some {x y v : T} {f : IntKind → Int → Nat → Option T} (h : shift2 x y f = some v) : ∃ k m k' n, x = .int k m ∧ y = .int k' (.ofNat n) ∧ f k m (min n k.bits) = some v := by
  unfold shift2 at h
  split at h
  · rename_i k m
    split at h
    · rename_i k' n
      cases n with
      | ofNat n => exact ⟨k, m, k', n, rfl, rfl, h⟩
      | negSucc n => simp at h
    · simp at h
  · simp at h

theorem cmp2_eq_some {x y v : T} {f : Int → Int → Bool} {g : List Nat → List Nat → Bool} (h : cmp2 x y f g = some v) :
    (∃ k m n, x = .int k m ∧ y = .int k n ∧ v = .bool (f m n)) ∨ (∃ s t, x = .str s ∧ y = .str t ∧ v = .bool (g s t)) := by
  unfold cmp2 at h
  split at h
  · rename_i k m
    split at h
    · rename_i k' n
      obtain ⟨h1, h2⟩ := chk_eq_some.1 h
      rw [kEq_eq] at h1; subst h1
      rw [rBool_eq] at h2; simp at h2
      exact .inl ⟨k, m, n, rfl, rfl, h2.symm⟩
    · simp at h
  · rename_i s
    split at h
    · rename_i t
      rw [rBool_eq] at h; simp at h
      exact .inr ⟨s, t, rfl, rfl, h.symm⟩
    · simp at h
  · simp at h

/-! strings -/

theorem toList_bytesOf (s : List Nat) : (bytesOf s).toList = s.map UInt8.ofNat := by
  rw [ByteArray.toList_eq]; rfl

theorem size_bytesOf (s : List Nat) : (bytesOf s).size = s.length := by simp [bytesOf, ByteArray.size]

theorem ofNat_inj {x y : Nat} (hx : x < 256) (hy : y < 256) (h : UInt8.ofNat x = UInt8.ofNat y) : x = y := by
  have := congrArg UInt8.toNat h
  rwa [toNat_ofNat_lt hx, toNat_ofNat_lt hy] at this

theorem map_ofNat_inj {s t : List Nat} (hs : ∀ x ∈ s, x < 256) (ht : ∀ x ∈ t, x < 256) (h : s.map UInt8.ofNat = t.map UInt8.ofNat) : s = t := by
  induction s generalizing t with
  | nil => cases t with
    | nil => rfl
    | cons y t => simp at h
  | cons x s ih => cases t with
    | nil => simp at h
    | cons y t =>
      simp only [List.map_cons, List.cons.injEq] at h
      rw [ofNat_inj (hs x (by simp)) (ht y (by simp)) h.1, ih (fun z hz => hs z (by simp [hz])) (fun z hz => ht z (by simp [hz])) h.2]

theorem eq_bytes {s t : List Nat} (hs : ∀ x ∈ s, x < 256) (ht : ∀ x ∈ t, x < 256) : ((bytesOf s).toList == (bytesOf t).toList) = eqL s t := by
  rw [eqL_eq, toList_bytesOf, toList_bytesOf, Bool.eq_iff_iff, beq_iff_eq, beq_iff_eq]
  exact ⟨map_ofNat_inj hs ht, fun h => by rw [h]⟩

theorem ltL_cons (x : Nat) (s : List Nat) (y : Nat) (t : List Nat) : ltL (x :: s) (y :: t) = (decide (x < y) || (x == y && ltL s t)) := by
  show @Bool.rec (fun _ => Bool) (@Bool.rec (fun _ => Bool) false (ltL s t) (Nat.beq x y)) true (Nat.blt x y) = _
  have h1 : Nat.blt x y = decide (x < y) := by rw [Bool.eq_iff_iff, Nat.blt_eq]; simp
  have h2 : Nat.beq x y = (x == y) := by rw [Bool.eq_iff_iff, Nat.beq_eq]; simp
  rw [h1, h2]
  cases decide (x < y) <;> cases (x == y) <;> rfl

theorem lt_bytes {s t : List Nat} (hs : ∀ x ∈ s, x < 256) (ht : ∀ x ∈ t, x < 256) : Op.bytesLess (bytesOf s).toList (bytesOf t).toList = ltL s t := by
  rw [toList_bytesOf, toList_bytesOf]
  induction s generalizing t with
  | nil => cases t <;> rfl
  | cons x s ih => cases t with
    | nil => rfl
    | cons y t =>
      have hx := hs x (by simp)
      have hy := ht y (by simp)
      rw [ltL_cons]
      simp only [List.map_cons, Op.bytesLess]
      rw [ih (fun z hz => hs z (by simp [hz])) (fun z hz => ht z (by simp [hz]))]
      have h1 : (decide (UInt8.ofNat x < UInt8.ofNat y)) = decide (x < y) := by
        rw [Bool.eq_iff_iff, decide_eq_true_iff, decide_eq_true_iff, UInt8.lt_iff_toNat_lt, toNat_ofNat_lt hx, toNat_ofNat_lt hy]
      have h2 : (UInt8.ofNat x == UInt8.ofNat y) = (x == y) := by
        rw [Bool.eq_iff_iff, beq_iff_eq, beq_iff_eq]
        exact ⟨ofNat_inj hx hy, fun h => by rw [h]⟩
      rw [h1, h2]

theorem ltL_total (s t : List Nat) : (ltL s t || eqL s t) = !ltL t s := by
  induction s generalizing t with
  | nil => cases t <;> rfl
  | cons x s ih => cases t with
    | nil => rfl
    | cons y t =>
      rw [ltL_cons, ltL_cons, eqL_eq, List.cons_beq_cons, ← eqL_eq]
      have := ih t
      rcases Nat.lt_trichotomy x y with hlt | heq | hgt
      · have h1 : ¬ y < x := by omega
        have h2 : (y == x) = false := by simp; omega
        simp [hlt, h1, h2]
      · subst heq
        simpa using this
      · have h1 : ¬ x < y := by omega
        have h2 : (x == y) = false := by simp; omega
        simp [hgt, h1, h2]

theorem bytesOf_append (s t : List Nat) : bytesOf (s ++ t) = bytesOf s ++ bytesOf t := by
  apply ByteArray.ext
  simp [bytesOf, ByteArray.data_append]

theorem binop_sound {op : BinOp} {x y v : T} {c d : Value} (t : TypeId) (hne : op ≠ .eql) (hnn : op ≠ .neq) (hx : RelV hp μ x c) (hy : RelV hp μ y d) (hh : binop op x y = some v) :
    ∃ z, (binOp op t c d).run P w = .ok z w ∧ RelV hp μ v z := by
  have ints : ∀ {f : IntKind → Int → Int → Option T}, int2 x y f = some v →
      (∀ k m n, f k m n = some v → ∃ z, (binOp op t (.int k m) (.int k n)).run P w = .ok z w ∧ RelV hp μ v z) → ∃ z, (binOp op t c d).run P w = .ok z w ∧ RelV hp μ v z := by
    intro f hf hk
    obtain ⟨k, m, n, rfl, rfl, h2⟩ := int2_eq_some hf
    rw [hx.inv_int, hy.inv_int]
    exact hk k m n h2
  have cmps : ∀ {f : Int → Int → Bool} {g : List Nat → List Nat → Bool}, cmp2 x y f g = some v →
      (∀ k m n, (binOp op t (.int k m) (.int k n)).run P w = .ok (.bool (f m n)) w) →
      (∀ s u, (∀ x ∈ s, x < 256) → (∀ x ∈ u, x < 256) → (binOp op t (.string (bytesOf s)) (.string (bytesOf u))).run P w = .ok (.bool (g s u)) w) → ∃ z, (binOp op t c d).run P w = .ok z w ∧ RelV hp μ v z := by
    intro f g hf h1 h2
    rcases cmp2_eq_some hf with ⟨k, m, n, rfl, rfl, rfl⟩ | ⟨s, u, rfl, rfl, rfl⟩
    · rw [hx.inv_int, hy.inv_int]
      exact ⟨_, h1 k m n, .bool _⟩
    · obtain ⟨e1, b1⟩ := hx.inv_str
      obtain ⟨e2, b2⟩ := hy.inv_str
      rw [e1, e2]
      exact ⟨_, h2 s u b1 b2, .bool _⟩
  cases op with
  | eql => exact absurd rfl hne
  | neq => exact absurd rfl hnn
  | add =>
    have hh : addT x y = some v := hh
    by_cases hstr : ∃ s, x = .str s
    · obtain ⟨s, rfl⟩ := hstr
      by_cases hstr' : ∃ u, y = .str u
      · obtain ⟨u, rfl⟩ := hstr'
        have hh : (bnd (appN s u) fun q => chk (Nat.ble (lenN q) 4294967296) (some (T.str q))) = some v := hh
        obtain ⟨q, h1, hh⟩ := bnd_eq_some.1 hh
        obtain ⟨hl, hh⟩ := chk_eq_some.1 hh
        simp at h1 hh; subst h1; subst hh
        have hl := Nat.le_of_ble_eq_true hl
        rw [lenN_eq, List.length_append] at hl
        obtain ⟨e1, b1⟩ := hx.inv_str
        obtain ⟨e2, b2⟩ := hy.inv_str
        rw [e1, e2]
        refine ⟨.string (bytesOf (s ++ u)), ?_, .str _ (by intro z hz; rcases List.mem_append.1 hz with k | k; exact b1 z k; exact b2 z k)⟩
        rw [bytesOf_append]
        have hi : ¬ (((bytesOf s).size + (bytesOf u).size : Nat) : Int) > IntKind.i64.max := by
          rw [size_bytesOf, size_bytesOf]
          have : IntKind.i64.max = 9223372036854775807 := by decide
          rw [this]; omega
        simp only [binOp, Op.stringOp, hi, if_false, Sem.run_pure]
      · exfalso
        unfold addT at hh
        cases y <;> first | (simp at hh; done) | exact hstr' ⟨_, rfl⟩
    · have hh : int2 x y (fun k a b => rWrap k (a + b)) = some v := by
        unfold addT at hh
        cases x <;> first | exact hh | exact absurd ⟨_, rfl⟩ hstr
      refine ints hh fun k m n h => ?_
      rw [rWrap_eq] at h; simp at h; subst h
      exact ⟨_, by simp [binOp, Op.intArith], .int _ _⟩
  | sub =>
    refine ints hh fun k m n h => ?_
    rw [rWrap_eq] at h; simp at h; subst h
    exact ⟨_, by simp [binOp, Op.intArith], .int _ _⟩
  | mul =>
    refine ints hh fun k m n h => ?_
    rw [rWrap_eq] at h; simp at h; subst h
    exact ⟨_, by simp [binOp, Op.intArith], .int _ _⟩
  | quo =>
    refine ints hh fun k m n h => ?_
    cases hz : eqI n 0 with
    | true => rw [hz] at h; simp at h
    | false =>
      rw [hz] at h
      have hz' : ¬ n = 0 := by rw [eqI_eq] at hz; simpa using hz
      simp only [rWrap_eq] at h; simp at h; subst h
      exact ⟨_, by simp [binOp, Op.intDiv, hz'], .int _ _⟩
  | rem =>
    refine ints hh fun k m n h => ?_
    cases hz : eqI n 0 with
    | true => rw [hz] at h; simp at h
    | false =>
      rw [hz] at h
      have hz' : ¬ n = 0 := by rw [eqI_eq] at hz; simpa using hz
      simp only [rInt_eq] at h; simp at h; subst h
      exact ⟨_, by simp [binOp, Op.intDiv, hz'], .int _ _⟩
  | and =>
    refine ints hh fun k m n h => ?_
    rw [rInt_eq] at h; simp only [Option.some.injEq] at h; subst h
    exact ⟨_, by simp [binOp, Op.intBits], .int _ _⟩
  | or =>
    refine ints hh fun k m n h => ?_
    rw [rInt_eq] at h; simp only [Option.some.injEq] at h; subst h
    exact ⟨_, by simp [binOp, Op.intBits], .int _ _⟩
  | xor =>
    refine ints hh fun k m n h => ?_
    rw [rInt_eq] at h; simp only [Option.some.injEq] at h; subst h
    exact ⟨_, by simp [binOp, Op.intBits], .int _ _⟩
  | shl =>
    have hh : shift2 x y (fun k a n => rInt k (k.wrap (a * 2 ^ n))) = some v := hh
    obtain ⟨k, m, k', n, rfl, rfl, h2⟩ := shift2_eq_some hh
    rw [hx.inv_int, hy.inv_int]
    rw [rInt_eq] at h2; simp only [Option.some.injEq] at h2; subst h2
    have hneg : ¬ ((n : Nat) : Int) < 0 := by omega
    exact ⟨_, by simp [binOp, Op.shift, hneg], .int _ _⟩
  | shr =>
    have hh : shift2 x y (fun k a n => rInt k (a.fdiv (2 ^ n))) = some v := hh
    obtain ⟨k, m, k', n, rfl, rfl, h2⟩ := shift2_eq_some hh
    rw [hx.inv_int, hy.inv_int]
    rw [rInt_eq] at h2; simp only [Option.some.injEq] at h2; subst h2
    have hneg : ¬ ((n : Nat) : Int) < 0 := by omega
    exact ⟨_, by simp [binOp, Op.shift, hneg], .int _ _⟩
  | lss => exact cmps hh (fun k m n => by simp [binOp, Op.intCmp, ltI_eq]) (fun s u hs hu => by simp only [binOp, Op.stringOp, lt_bytes hs hu, Sem.run_pure])
  | leq => exact cmps hh (fun k m n => by simp only [binOp, Op.intCmp, ltI_eq, ne_eq, not_true, if_false, Sem.run_pure]; congr 2; rw [Bool.eq_iff_iff]; simp) (fun s u hs hu => by simp only [binOp, Op.stringOp, lt_bytes hs hu, eq_bytes hs hu, Sem.run_pure, ltL_total])
  | gtr => exact cmps hh (fun k m n => by simp [binOp, Op.intCmp, ltI_eq]) (fun s u hs hu => by simp only [binOp, Op.stringOp, lt_bytes hs hu, eq_bytes hs hu, Sem.run_pure, ltL_total, Bool.not_not])
  | geq => exact cmps hh (fun k m n => by simp only [binOp, Op.intCmp, ltI_eq, ne_eq, not_true, if_false, Sem.run_pure]; congr 2; rw [Bool.eq_iff_iff]; simp) (fun s u hs hu => by simp only [binOp, Op.stringOp, lt_bytes hs hu, Sem.run_pure])
  | _ => simp [binop] at hh

theorem eqGuard_other {op : BinOp} {t : TypeId} {x y : Operand} {c d : Value} (hne : op ≠ .eql) (hnn : op ≠ .neq) : (eqGuard op t x y c d).run P w = .ok () w := by
  cases op <;> first | (exact absurd rfl hne) | (exact absurd rfl hnn) | (simp [eqGuard])

theorem hBin_sound {op : BinOp} {t u : TypeId} {x y : Operand} (hne : op ≠ .eql) (hnn : op ≠ .neq) (s : St cx base w.heap μ h) (r : RelE w.heap μ mask e a.tmps) (ho : o.op = .binOp op t x y u) {v : T} {h' : H}
    (hh : hBin op x y cx mask e h = some (.val v h')) : Done cx base w μ h.size ((execOp a.eval o).run P w) v h' := by
  obtain ⟨p, hp, hh⟩ := bnd_eq_some.1 hh
  obtain ⟨q, hq, hh⟩ := bnd_eq_some.1 hh
  obtain ⟨hv, rfl⟩ := val_eq_some.1 hh
  obtain ⟨z, hz, hr⟩ := binop_sound (P := P) (w := w) t hne hnn (opnd_sound s r hp) (opnd_sound s r hq) hv
  refine Done.pure s ?_ hr
  simp only [execOp, ho, Sem.run_bind, eqGuard_other hne hnn, Result.andThen_ok, hz, Sem.run_pure]

theorem hUn_sound {op : UnOp} {t : TypeId} {x : Operand} (s : St cx base w.heap μ h) (r : RelE w.heap μ mask e a.tmps) (ho : o.op = .unOp op t x) {v : T} {h' : H}
    (hh : hUn op x cx mask e h = some (.val v h')) : Done cx base w μ h.size ((execOp a.eval o).run P w) v h' := by
  obtain ⟨p, hp, hh⟩ := bnd_eq_some.1 hh
  obtain ⟨hv, rfl⟩ := val_eq_some.1 hh
  have hc := opnd_sound s r hp
  cases op with
  | neg =>
    cases p <;> simp [unop] at hv
    subst hv
    exact Done.pure s (by simp [execOp, ho, hc.inv_int, Op.unary, Op.intArith]) (.int _ _)
  | not =>
    cases p <;> simp [unop] at hv
    rename_i b
    have hb := hc.inv_bool
    cases b <;> simp at hv <;> subst hv <;> exact Done.pure s (by simp [execOp, ho, hb, Op.unary]) (.bool _)
  | _ => simp [unop] at hv
end
end Go.TI

/- Equality. -/
namespace Go.TI
section
variable {P : Program} {cx : Ctx} {base : Nat} {w : World} {μ : Mu} {h : H} {mask : Nat} {e : Env} {a : Act} {o : Oper} {hp : Array Obj}

theorem und_of {t : TypeId} {ty : Ty} (h : TyOk P t ty) : ∃ d, P.underlying t = some d ∧ uOf P d = some ty.u := by
  obtain ⟨i, d, z, _, h2, _, _, h5, _⟩ := h.unfold
  exact ⟨d, h2, h5⟩

theorem uOf_int {d : TypeDesc} {k : IntKind} (h : uOf P d = some (.int k)) : d = .int k := by
  cases d <;> simp only [uOf] at h <;> first | (split at h <;> simp at h; done) | (simp at h; done) | (simp at h; rw [h])
theorem uOf_bool {d : TypeDesc} (h : uOf P d = some .bool) : d = .bool := by
  cases d <;> simp only [uOf] at h <;> first | rfl | (split at h <;> simp at h; done) | (simp at h; done)
theorem uOf_str {d : TypeDesc} (h : uOf P d = some .str) : d = .string := by
  cases d <;> simp only [uOf] at h <;> first | rfl | (split at h <;> simp at h; done) | (simp at h; done)
theorem uOf_slice {d : TypeDesc} {e : TypeId} (h : uOf P d = some (.slice e)) : d = .slice e := by
  cases d <;> simp only [uOf] at h <;> first | (split at h <;> simp at h; done) | (simp at h; done) | (simp at h; rw [h])
theorem uOf_array {d : TypeDesc} {n : Nat} {e : TypeId} (h : uOf P d = some (.array n e)) : d = .array n e := by
  cases d <;> simp only [uOf] at h <;> first | (split at h <;> simp at h; done) | (simp at h; done) | (simp at h; rw [h.1, h.2])
theorem uOf_ptr {d : TypeDesc} {e : TypeId} (h : uOf P d = some (.ptr e)) : d = .pointer e := by
  cases d <;> simp only [uOf] at h <;> first | (split at h <;> simp at h; done) | (simp at h; done) | (simp at h; rw [h])
theorem uOf_func {d : TypeDesc} (h : uOf P d = some .func) : ∃ p r v, d = .func p r v := by
  cases d <;> simp only [uOf] at h <;> first | (split at h <;> simp at h; done) | (simp at h; done) | exact ⟨_, _, _, rfl⟩
theorem uOf_iface {d : TypeDesc} (h : uOf P d = some .iface) : ∃ ms, d = .interface ms := by
  cases d <;> simp only [uOf] at h <;> first | (split at h <;> simp at h; done) | (simp at h; done) | exact ⟨_, rfl⟩
theorem uOf_struct {d : TypeDesc} {fs : List (Nat × TypeId)} (h : uOf P d = some (.struct fs)) :
    ∃ fields, d = .struct fields ∧ fs = fields.toList.map (fun f => (f.offset, f.type)) ∧ ∀ f ∈ fields.toList, ∃ i, P.info? f.type = some i ∧ i.size ≠ 0 := by
  cases d <;> simp only [uOf] at h <;> try (simp at h; done)
  rename_i fields
  split at h
  · rename_i hall
    simp only [Option.some.injEq, U.struct.injEq] at h
    refine ⟨fields, rfl, h.symm, fun f hf => ?_⟩
    have := List.all_eq_true.1 hall f hf
    cases hi : P.info? f.type with
    | none => rw [hi] at this; simp at this
    | some i => rw [hi] at this; exact ⟨i, rfl, by simpa using this⟩
  · simp at h

theorem bytes_beq {s t : List Nat} (hs : ∀ x ∈ s, x < 256) (ht : ∀ x ∈ t, x < 256) : (bytesOf s == bytesOf t) = eqL s t := by
  rw [beq_toListBytes, eq_bytes hs ht]

/-- Of one cell: what the model's comparison by type says. -/
theorem eqCell_sound {t : TypeId} {d : TypeDesc} {u : U} {x y : T} {c k : Value} {b : Bool} (hd : P.underlying t = some d) (hu : uOf P d = some u) (hx : RelV hp μ x c) (hy : RelV hp μ y k)
    (hh : eqCell u x y = some b) (n : Nat) : (Op.equalIn (n + 1) t c k).run P w = .ok b w := by
  unfold eqCell at hh
  split at hh
  · have := uOf_int hu; subst this
    cases x <;> simp at hh
    cases y <;> simp at hh
    obtain ⟨h1, h2⟩ := chk_eq_some.1 hh
    rw [kEq_eq] at h1; subst h1
    simp at h2; subst h2
    rw [hx.inv_int, hy.inv_int]
    simp [Op.equalIn, run_underlying hd, eqI_eq]
  · have := uOf_bool hu; subst this
    cases x <;> simp at hh
    cases y <;> simp at hh
    rename_i p q
    rw [hx.inv_bool, hy.inv_bool]
    cases p <;> cases q <;> simp at hh <;> subst hh <;> simp [Op.equalIn, run_underlying hd]
  · have := uOf_str hu; subst this
    cases x <;> simp at hh
    cases y <;> simp at hh
    subst hh
    obtain ⟨e1, b1⟩ := hx.inv_str
    obtain ⟨e2, b2⟩ := hy.inv_str
    rw [e1, e2]
    simp [Op.equalIn, run_underlying hd, bytes_beq b1 b2]
  · have := uOf_ptr hu; subst this
    cases x <;> simp at hh
    · rw [hx.inv_nilp]
      cases y <;> simp at hh <;> subst hh
      · rw [hy.inv_nilp]; simp [Op.equalIn, run_underlying hd]
      · obtain ⟨L, ad, hq, _⟩ := hy.inv_ptr; rw [hq]; simp [Op.equalIn, run_underlying hd]
      · obtain ⟨blk, off, arr, t, fz, hq, _⟩ := hy.inv_tptr; rw [hq]; simp [Op.equalIn, run_underlying hd]
    · obtain ⟨L, ad, hq, _⟩ := hx.inv_ptr
      cases y <;> simp at hh
      subst hh
      rw [hy.inv_nilp, hq]; simp [Op.equalIn, run_underlying hd]
    · obtain ⟨blk, off, arr, t, fz, hq, _⟩ := hx.inv_tptr
      cases y <;> simp at hh
      subst hh
      rw [hy.inv_nilp, hq]; simp [Op.equalIn, run_underlying hd]
  · obtain ⟨pp, rr, vv, rfl⟩ := uOf_func hu
    cases x <;> simp at hh
    · obtain ⟨cs, hq, _⟩ := hx.inv_func
      cases y <;> simp at hh
      subst hh
      rw [hy.inv_nilf, hq]; simp [Op.equalIn, run_underlying hd]
    · rw [hx.inv_nilf]
      cases y <;> simp at hh <;> subst hh
      · obtain ⟨cs, hq, _⟩ := hy.inv_func; rw [hq]; simp [Op.equalIn, run_underlying hd]
      · rw [hy.inv_nilf]; simp [Op.equalIn, run_underlying hd]
  · obtain ⟨ms, rfl⟩ := uOf_iface hu
    cases x <;> simp at hh
    · rw [hx.inv_nili]
      cases y <;> simp at hh <;> subst hh
      · rw [hy.inv_nili]; simp [Op.equalIn, run_underlying hd]
      · obtain ⟨dd, hq⟩ := hy.inv_iface; rw [hq]; simp [Op.equalIn, run_underlying hd]
    · obtain ⟨dd, hq⟩ := hx.inv_iface
      cases y <;> simp at hh
      subst hh
      rw [hy.inv_nili, hq]; simp [Op.equalIn, run_underlying hd]
  · simp at hh

theorem eqFields_cons (f : Nat × TypeId) (fs : List (Nat × TypeId)) (i : Nat) (x : T) (r : List T) (y : T) (q : List T) : eqFields cx (f :: fs) i (x :: r) (y :: q) =
    chk (Nat.beq f.1 i) (bnd (cx.ty f.2) fun ty => chk ty.u.plain (bnd (eqCell ty.u x y) fun t => @Bool.rec (fun _ => Option Bool) (some false) (eqFields cx fs (i + 1) r q) t)) := rfl

theorem run_part_plain {t : TypeId} {ty : Ty} (h : TyOk P t ty) (hp : ty.u.plain = true) {cs : Array Value} {k : Nat} {c : Value} (hc : cs[k]? = some c) : (part t cs k).run P w = .ok c w := by
  have hagg : ty.isAgg = false := by
    unfold Ty.isAgg
    cases hu : ty.u <;> simp [hu, U.plain] at hp <;> rfl
  simp [part, h.run_isAgg, hagg, hc]

theorem eqFields_sound (tys : TysOk P cx) (n : Nat) : ∀ (fields : List Field) (i : Nat) (xs ys : List T) (cs ds : Array Value) (b : Bool),
    RelL hp μ xs (cs.toList.drop i) → RelL hp μ ys (ds.toList.drop i) → (∀ f ∈ fields, f.name ≠ "_") → eqFields cx (fields.map fun f => (f.offset, f.type)) i xs ys = some b →
    (Op.eqFields (n + 1) cs ds fields).run P w = .ok b w := by
  intro fields
  induction fields with
  | nil =>
    intro i xs ys cs ds b _ _ _ hh
    have : b = true := by simpa [eqFields] using hh.symm
    subst this
    simp [Op.eqFields]
  | cons f fields ih =>
    intro i xs ys cs ds b hx hy hn hh
    rw [List.map_cons] at hh
    cases xs with
    | nil => simp [eqFields] at hh
    | cons x xs => cases ys with
      | nil => simp [eqFields] at hh
      | cons y ys =>
        rw [eqFields_cons] at hh
        obtain ⟨h1, hh⟩ := chk_eq_some.1 hh
        obtain ⟨ty, h2, hh⟩ := bnd_eq_some.1 hh
        obtain ⟨h3, hh⟩ := chk_eq_some.1 hh
        obtain ⟨q, h4, hh⟩ := bnd_eq_some.1 hh
        have hoff : f.offset = i := Nat.eq_of_beq_eq_true h1
        obtain ⟨c, hc, hxc⟩ := hx.get (k := 0) (v := x) (by simp)
        obtain ⟨d, hd, hyd⟩ := hy.get (k := 0) (v := y) (by simp)
        have hci : cs[i]? = some c := by simpa using hc
        have hdi : ds[i]? = some d := by simpa using hd
        have hty := tys.ty _ _ h2
        obtain ⟨dd, hdd, huu⟩ := und_of hty
        have heq := eqCell_sound (P := P) (w := w) hdd huu hxc hyd h4 n
        have hnm : f.name ≠ "_" := hn f (by simp)
        simp only [Op.eqFields, hnm, ne_eq, not_false_eq_true, if_true, Sem.run_bind, hoff, run_part_plain hty h3 hci, run_part_plain hty h3 hdi, Result.andThen_ok, heq]
        cases q with
        | false =>
          have : b = false := by simpa using hh.symm
          subst this
          simp
        | true =>
          simp only [Bool.not_true, Bool.false_eq_true, if_false]
          refine ih (i + 1) xs ys cs ds b ?_ ?_ (fun g hg => hn g (by simp [hg])) hh
          · have := hx.drop 1; simpa [List.drop_drop, Nat.add_comm] using this
          · have := hy.drop 1; simpa [List.drop_drop, Nat.add_comm] using this

theorem eqElems_sound {e : TypeId} {te : Ty} (hty : TyOk P e te) (hpl : te.u.plain = true) (n : Nat) : ∀ (xs ys : List T) (i : Nat) (cs ds : Array Value) (b : Bool),
    RelL hp μ xs (cs.toList.drop i) → RelL hp μ ys (ds.toList.drop i) → eqElems te.u xs ys = some b → (Op.eqItems (n + 1) e 1 cs ds (List.range' i xs.length)).run P w = .ok b w := by
  intro xs
  induction xs with
  | nil =>
    intro ys i cs ds b _ _ hh
    have : b = true := by
      cases ys with
      | nil => have hh : some true = some b := hh; simpa using hh.symm
      | cons => simp [eqElems] at hh
    subst this
    simp [Op.eqItems]
  | cons x xs ih =>
    intro ys i cs ds b hx hy hh
    cases ys with
    | nil => simp [eqElems] at hh
    | cons y ys =>
      have hh : (bnd (eqCell te.u x y) fun t => @Bool.rec (fun _ => Option Bool) (some false) (eqElems te.u xs ys) t) = some b := hh
      obtain ⟨q, h4, hh⟩ := bnd_eq_some.1 hh
      obtain ⟨c, hc, hxc⟩ := hx.get (k := 0) (v := x) (by simp)
      obtain ⟨d, hd, hyd⟩ := hy.get (k := 0) (v := y) (by simp)
      have hci : cs[i]? = some c := by simpa using hc
      have hdi : ds[i]? = some d := by simpa using hd
      obtain ⟨dd, hdd, huu⟩ := und_of hty
      have heq := eqCell_sound (P := P) (w := w) hdd huu hxc hyd h4 n
      rw [List.length_cons, List.range'_succ]
      simp only [Op.eqItems, Sem.run_bind, Nat.mul_one, run_part_plain hty hpl hci, run_part_plain hty hpl hdi, Result.andThen_ok, heq]
      cases q with
      | false =>
        have : b = false := by simpa using hh.symm
        subst this
        simp
      | true =>
        simp only [Bool.not_true, Bool.false_eq_true, if_false]
        refine ih ys (i + 1) cs ds b ?_ ?_ hh
        · have := hx.drop 1; simpa [List.drop_drop, Nat.add_comm] using this
        · have := hy.drop 1; simpa [List.drop_drop, Nat.add_comm] using this

theorem eqGuard_nil {op : BinOp} {t : TypeId} {x y : Operand} (hc : (Region.isConst x || Region.isConst y) = true) : (eqGuard op t x y .nilIface .nilIface).run P w = .ok () w := by
  unfold eqGuard
  cases x <;> cases y <;> simp [Region.isConst] at hc <;> simp

theorem hEq_sound (tys : TysOk P cx) {neg : Bool} {op : BinOp} {t u : TypeId} {x y : Operand} (hop : op = (if neg then BinOp.neq else BinOp.eql)) (s : St cx base w.heap μ h) (r : RelE w.heap μ mask e a.tmps)
    (ho : o.op = .binOp op t x y u) {v : T} {h' : H} (hh : hEq neg t x y cx mask e h = some (.val v h')) : Done cx base w μ h.size ((execOp a.eval o).run P w) v h' := by
  obtain ⟨ty, hty0, hh⟩ := bnd_eq_some.1 hh
  obtain ⟨p, hp, hh⟩ := bnd_eq_some.1 hh
  obtain ⟨q, hq, hh⟩ := bnd_eq_some.1 hh
  obtain ⟨hnil, hh⟩ := chk_eq_some.1 hh
  obtain ⟨b, hb, hh⟩ := bnd_eq_some.1 hh
  obtain ⟨hv, rfl⟩ := val_eq_some.1 hh
  have hx := opnd_sound s r hp
  have hy := opnd_sound s r hq
  have hty := tys.ty _ _ hty0
  have hfin : v = .bool (if neg then !b else b) := by
    rw [rBool_eq] at hv
    cases neg <;> simpa using hv.symm
  subst hfin
  -- the guard, and the comparison by type
  have key : (eqGuard op t x y (a.eval x) (a.eval y)).run P w = .ok () w ∧ (binOp op t (a.eval x) (a.eval y)).run P w = .ok (.bool (if neg then !b else b)) w := by
    obtain ⟨i, d, z, _, h2, _, _, h5, _, _, _, _, hcmp⟩ := hty.unfold
    unfold eqT at hb
    split at hb
    · rename_i fs hfs
      rw [hfs] at h5
      obtain ⟨fields, rfl, hfl, _⟩ := uOf_struct h5
      cases p <;> simp at hb
      cases q <;> simp at hb
      obtain ⟨hc, hb⟩ := chk_eq_some.1 hb
      obtain ⟨c1, c2, c3⟩ := hcmp hc
      obtain ⟨cs, e1, L1, _⟩ := hx.inv_agg
      obtain ⟨ds, e2, L2, _⟩ := hy.inv_agg
      rw [e1, e2]
      refine ⟨run_eqGuard_agg w op t x y cs ds c2, ?_⟩
      have hfo : P.fieldsOf t = fields := by simp [Program.fieldsOf, h2]
      have heq : (Op.equalIn 10000 t (.agg cs) (.agg ds)).run P w = .ok b w := by
        rw [run_equalIn_struct w 9999 t cs ds (by rw [hfo]; exact h2) c1, hfo]
        rw [hfl] at hb
        refine eqFields_sound tys 9998 fields.toList 0 _ _ cs ds b (by simpa using L1) (by simpa using L2) ?_ hb
        intro f hf
        have := List.all_eq_true.1 c3 f hf
        simpa using this
      cases neg with
      | false => simp at hop; subst hop; rw [run_eql_struct, heq]; rfl
      | true => simp at hop; subst hop; rw [run_neq_struct, heq]; rfl
    · rename_i n e hfs
      rw [hfs] at h5
      have hd := uOf_array h5
      subst hd
      cases p <;> simp at hb
      cases q <;> simp at hb
      obtain ⟨hc, hb⟩ := chk_eq_some.1 hb
      obtain ⟨te, hte0, hb⟩ := bnd_eq_some.1 hb
      obtain ⟨hpl, hb⟩ := chk_eq_some.1 hb
      obtain ⟨hs1, hb⟩ := chk_eq_some.1 hb
      obtain ⟨hln, hb⟩ := chk_eq_some.1 hb
      obtain ⟨c1, c2, c3⟩ := hcmp hc
      obtain ⟨cs, e1, L1, _⟩ := hx.inv_agg
      obtain ⟨ds, e2, L2, _⟩ := hy.inv_agg
      rw [e1, e2]
      refine ⟨run_eqGuard_agg w op t x y cs ds c2, ?_⟩
      have hte := tys.ty _ _ hte0
      have heq : (Op.equalIn 10000 t (.agg cs) (.agg ds)).run P w = .ok b w := by
        obtain ⟨i', d', z', hi', _, _, _, _, _, _, hsz', _⟩ := hte.unfold
        rw [run_equalIn_array w 9999 cs ds h2 hi', List.range_eq_range']
        have hone : P.cellsOf e = 1 := by
          have := Nat.eq_of_beq_eq_true hs1
          simp only [Program.cellsOf, hi', Option.map_some, Option.getD_some]
          omega
        have hlen := Nat.eq_of_beq_eq_true hln
        rw [hone, ← hlen]
        exact eqElems_sound hte hpl 9998 _ _ 0 cs ds b (by simpa using L1) (by simpa using L2) hb
      cases neg with
      | false => simp at hop; subst hop; rw [run_eql_struct, heq]; rfl
      | true => simp at hop; subst hop; rw [run_neq_struct, heq]; rfl
    · have heq := eqCell_sound (P := P) (w := w) h2 h5 hx hy hb 9999
      have hguard : ∀ c k : Value, (c ≠ .nilIface ∨ k ≠ .nilIface) → ((∀ xs, c ≠ .agg xs) ∨ ∀ ys, k ≠ .agg ys) → (eqGuard op t x y c k).run P w = .ok () w := by
        intro c k g1 g2
        cases neg with
        | false =>
          simp at hop; subst hop
          cases c <;> cases k <;> first | (simp [eqGuard]; done) | (simp at g1; done) | (simp at g2; done)
        | true =>
          simp at hop; subst hop
          cases c <;> cases k <;> first | (simp [eqGuard]; done) | (simp at g1; done) | (simp at g2; done)
      have hgen : ∀ c k : Value, (∀ k1 m1 k2 m2, (c, k) ≠ (.int k1 m1, .int k2 m2)) → (∀ s1 s2, (c, k) ≠ (.string s1, .string s2)) → (∀ f1 b1 f2 b2, (c, k) ≠ (.float f1 b1, .float f2 b2)) → (∀ f1 b1 c1 f2 b2 c2, (c, k) ≠ (.complex f1 b1 c1, .complex f2 b2 c2)) →
          (Op.equalIn 10000 t c k).run P w = .ok b w → (binOp op t c k).run P w = .ok (.bool (if neg then !b else b)) w := by
        intro c k n1 n2 n3 n4 he
        cases neg with
        | false =>
          simp at hop; subst hop
          cases c <;> cases k <;> first | (exact absurd rfl (n1 _ _ _ _)) | (exact absurd rfl (n2 _ _)) | (exact absurd rfl (n3 _ _ _ _)) | (exact absurd rfl (n4 _ _ _ _ _ _)) | (simp [binOp, Op.equal, Op.maxDepth, he])
        | true =>
          simp at hop; subst hop
          cases c <;> cases k <;> first | (exact absurd rfl (n1 _ _ _ _)) | (exact absurd rfl (n2 _ _)) | (exact absurd rfl (n3 _ _ _ _)) | (exact absurd rfl (n4 _ _ _ _ _ _)) | (simp [binOp, Op.equal, Op.maxDepth, he])
      unfold eqCell at hb
      split at hb
      · cases p <;> simp at hb
        cases q <;> simp at hb
        obtain ⟨k1, k2⟩ := chk_eq_some.1 hb
        rw [kEq_eq] at k1; subst k1
        simp at k2; subst k2
        rw [hx.inv_int, hy.inv_int]
        refine ⟨hguard _ _ (.inl (by simp)) (.inl (by simp)), ?_⟩
        cases neg <;> simp at hop <;> subst hop <;> simp [binOp, Op.intCmp, eqI_eq, bne]
      · cases p <;> simp at hb
        cases q <;> simp at hb
        rw [hx.inv_bool, hy.inv_bool] at heq ⊢
        exact ⟨hguard _ _ (.inl (by simp)) (.inl (by simp)), hgen _ _ (by simp) (by simp) (by simp) (by simp) heq⟩
      · cases p <;> simp at hb
        cases q <;> simp at hb
        subst hb
        obtain ⟨e1, b1⟩ := hx.inv_str
        obtain ⟨e2, b2⟩ := hy.inv_str
        rw [e1, e2]
        refine ⟨hguard _ _ (.inl (by simp)) (.inl (by simp)), ?_⟩
        cases neg <;> simp at hop <;> subst hop <;> simp [binOp, Op.stringOp, eq_bytes b1 b2]
      · cases p <;> simp at hb
        · have e1 := hx.inv_nilp
          rw [e1] at heq ⊢
          have e2 : ∃ ad, a.eval y = .pointer ad := by
            cases q <;> simp at hb
            · exact ⟨_, hy.inv_nilp⟩
            · obtain ⟨_, ad, hq, _⟩ := hy.inv_ptr; exact ⟨_, hq⟩
            · obtain ⟨_, _, _, _, _, hq, _⟩ := hy.inv_tptr; exact ⟨_, hq⟩
          obtain ⟨ad, e2⟩ := e2
          rw [e2] at heq ⊢
          exact ⟨hguard _ _ (.inl (by simp)) (.inl (by simp)), hgen _ _ (by simp) (by simp) (by simp) (by simp) heq⟩
        · obtain ⟨_, ad, e1, _⟩ := hx.inv_ptr
          cases q <;> simp at hb
          have e2 := hy.inv_nilp
          rw [e1, e2] at heq ⊢
          exact ⟨hguard _ _ (.inl (by simp)) (.inl (by simp)), hgen _ _ (by simp) (by simp) (by simp) (by simp) heq⟩
        · obtain ⟨_, _, _, _, _, e1, _⟩ := hx.inv_tptr
          cases q <;> simp at hb
          have e2 := hy.inv_nilp
          rw [e1, e2] at heq ⊢
          exact ⟨hguard _ _ (.inl (by simp)) (.inl (by simp)), hgen _ _ (by simp) (by simp) (by simp) (by simp) heq⟩
      · cases p <;> simp at hb
        · obtain ⟨cs, e1, _⟩ := hx.inv_func
          cases q <;> simp at hb
          have e2 := hy.inv_nilf
          rw [e1, e2] at heq ⊢
          exact ⟨hguard _ _ (.inl (by simp)) (.inl (by simp)), hgen _ _ (by simp) (by simp) (by simp) (by simp) heq⟩
        · have e1 := hx.inv_nilf
          have e2 : (∃ f ca cs, a.eval y = .func f ca cs) ∨ a.eval y = .nilFunc := by
            cases q <;> simp at hb
            · obtain ⟨cs, hq, _⟩ := hy.inv_func; exact .inl ⟨_, _, _, hq⟩
            · exact .inr hy.inv_nilf
          rcases e2 with ⟨f, ca, cs, e2⟩ | e2
          all_goals
            rw [e1, e2] at heq ⊢
            exact ⟨hguard _ _ (.inl (by simp)) (.inl (by simp)), hgen _ _ (by simp) (by simp) (by simp) (by simp) heq⟩
      · cases p <;> simp at hb
        · have e1 := hx.inv_nili
          cases q <;> simp at hb
          · have e2 := hy.inv_nili
            rw [e1, e2] at heq ⊢
            have hnil : (Region.isConst x || Region.isConst y) = true := hnil
            exact ⟨eqGuard_nil hnil, hgen _ _ (by simp) (by simp) (by simp) (by simp) heq⟩
          · obtain ⟨dd, e2⟩ := hy.inv_iface
            rw [e1, e2] at heq ⊢
            exact ⟨hguard _ _ (.inr (by simp)) (.inl (by simp)), hgen _ _ (by simp) (by simp) (by simp) (by simp) heq⟩
        · obtain ⟨dd, e1⟩ := hx.inv_iface
          cases q <;> simp at hb
          have e2 := hy.inv_nili
          rw [e1, e2] at heq ⊢
          exact ⟨hguard _ _ (.inl (by simp)) (.inl (by simp)), hgen _ _ (by simp) (by simp) (by simp) (by simp) heq⟩
      · simp at hb
  refine Done.pure s ?_ (.bool _)
  simp only [execOp, ho, Sem.run_bind, key.1, Result.andThen_ok, key.2, Sem.run_pure]
end
end Go.TI

/- Reading: loads, fields, indices, lengths, slices of slices. -/
namespace Go.TI
section
variable {P : Program} {cx : Ctx} {base : Nat} {w : World} {μ : Mu} {h : H} {mask : Nat} {e : Env} {a : Act} {o : Oper} {hp : Array Obj}

theorem add_none (blk off n : Nat) : (⟨blk, off, none⟩ : Addr).add n = ⟨blk, off + n, none⟩ := by
  unfold Addr.add; split <;> simp_all

theorem flat_cons (x : T) (es : List T) : flat (x :: es) = x.cells ++ flat es := by simp [flat]
theorem flat_append (a b : List T) : flat (a ++ b) = flat a ++ flat b := by simp [flat]

theorem flat_length {sz : Nat} {es : List T} (hu : ∀ v ∈ es, v.cells.length = sz) : (flat es).length = es.length * sz := by
  induction es with
  | nil => simp [flat]
  | cons x es ih =>
    rw [flat_cons, List.length_append, ih (fun v hv => hu v (by simp [hv])), hu x (by simp), List.length_cons, Nat.succ_mul]
    omega

theorem flat_drop {sz : Nat} {es : List T} (hu : ∀ v ∈ es, v.cells.length = sz) (i : Nat) : (flat es).drop (i * sz) = flat (es.drop i) := by
  induction i generalizing es with
  | zero => simp
  | succ i ih => cases es with
    | nil => simp [flat]
    | cons x es =>
      have hx := hu x (by simp)
      rw [flat_cons, Nat.succ_mul, Nat.add_comm, ← List.drop_drop]
      have : (x.cells ++ flat es).drop sz = flat es := by rw [← hx]; simp
      rw [this, ih (fun v hv => hu v (by simp [hv]))]
      rfl

theorem flat_take {sz : Nat} {es : List T} (hu : ∀ v ∈ es, v.cells.length = sz) (i : Nat) : (flat es).take (i * sz) = flat (es.take i) := by
  induction i generalizing es with
  | zero => simp [flat]
  | succ i ih => cases es with
    | nil => simp [flat]
    | cons x es =>
      have hx := hu x (by simp)
      rw [flat_cons, List.take_succ_cons, flat_cons, ← ih (fun v hv => hu v (by simp [hv])), Nat.succ_mul, List.take_append, hx]
      congr 1
      · rw [List.take_of_length_le (by omega)]
      · congr 1; omega

/-- The cells from an address on stand for a list. -/
structure RowAt (hp : Array Obj) (μ : Mu) (blk off : Nat) (cs : List T) : Prop where
  row : ∃ arr t fz, hp[blk]? = some (.cells arr t fz) ∧ off + cs.length ≤ arr.size ∧ ∀ (k : Nat) v, cs[k]? = some v → RelV hp μ v (arr.getD (off + k) Go.undef)
  scalar : ∀ v ∈ cs, v.scalar = true

theorem RowAt.cell {blk off : Nat} {cs : List T} (r : RowAt w.heap μ blk off cs) {k : Nat} {v : T} (hv : cs[k]? = some v) : ∃ c, w.cell? ⟨blk, off + k, none⟩ = some c ∧ RelV w.heap μ v c := by
  obtain ⟨arr, t, fz, h1, h2, h3⟩ := r.row
  have hk : k < cs.length := by
    rcases Nat.lt_or_ge k cs.length with x | x
    · exact x
    · simp [List.getElem?_eq_none x] at hv
  have hlt : off + k < arr.size := by omega
  refine ⟨arr[off + k], by simp [World.cell?, h1, hlt], ?_⟩
  have := h3 k v hv
  simpa [Array.getD_eq_getD_getElem?, hlt] using this

theorem RowAt.take {blk off : Nat} {cs : List T} (r : RowAt hp μ blk off cs) (n : Nat) : RowAt hp μ blk off (cs.take n) := by
  obtain ⟨arr, t, fz, h1, h2, h3⟩ := r.row
  refine ⟨⟨arr, t, fz, h1, by simp; omega, fun k v hv => h3 k v ?_⟩, fun v hv => r.scalar v (List.mem_of_mem_take hv)⟩
  rw [List.getElem?_take] at hv
  split at hv
  · exact hv
  · simp at hv

theorem RowAt.drop {blk off : Nat} {cs : List T} (r : RowAt hp μ blk off cs) (n : Nat) (hn : n ≤ cs.length) : RowAt hp μ blk (off + n) (cs.drop n) := by
  obtain ⟨arr, t, fz, h1, h2, h3⟩ := r.row
  refine ⟨⟨arr, t, fz, h1, by simp; omega, fun k v hv => ?_⟩, fun v hv => r.scalar v (List.mem_of_mem_drop hv)⟩
  rw [List.getElem?_drop] at hv
  have := h3 (n + k) v hv
  rwa [← Nat.add_assoc] at this

theorem RowAt.run_loadCells {blk off : Nat} {cs : List T} (r : RowAt w.heap μ blk off cs) : ∃ ds : List Value, (loadCells ⟨blk, off, none⟩ cs.length).run P w = .ok ds.toArray w ∧ RelL w.heap μ cs ds := by
  obtain ⟨arr, t, fz, h1, h2, h3⟩ := r.row
  refine ⟨(arr.toList.drop off).take cs.length, ?_, ?_⟩
  · have hl : ((arr.toList.drop off).take cs.length).length = cs.length := by simp; omega
    have := Go.run_loadCells_list (P := P) w ⟨blk, off, none⟩ ((arr.toList.drop off).take cs.length) (fun j v hj => by
      rw [add_none]
      rw [List.getElem?_take] at hj
      split at hj
      · rw [List.getElem?_drop] at hj
        simp only [World.cell?, h1]
        simpa using hj
      · simp at hj)
    rwa [hl] at this
  · refine ⟨by simp; omega, fun k v hv => ?_⟩
    have hk : k < cs.length := by
      rcases Nat.lt_or_ge k cs.length with x | x
      · exact x
      · simp [List.getElem?_eq_none x] at hv
    have := h3 k v hv
    have hlt : off + k < arr.size := by omega
    simpa [List.getD, List.getElem?_take, hk, Array.getD_eq_getD_getElem?, hlt] using this

theorem readAs_sound {t : TypeId} {ty : Ty} {blk off : Nat} {cs : List T} {v : T} (hty : TyOk P t ty) (r : RowAt w.heap μ blk off cs) (hh : readAs ty cs = some v) :
    ∃ c, (loadVar t ⟨blk, off, none⟩).run P w = .ok c w ∧ RelV w.heap μ v c := by
  unfold readAs at hh
  cases hb : ty.isAgg with
  | true =>
    rw [hb] at hh
    have hh : (bnd (takeN ty.size cs) fun r => some (T.agg r)) = some v := hh
    obtain ⟨q, h1, h2⟩ := bnd_eq_some.1 hh
    rw [takeN_eq] at h1
    split at h1
    · rename_i hle
      simp at h1 h2; subst h1; subst h2
      have rt := r.take ty.size
      obtain ⟨ds, hd, hL⟩ := RowAt.run_loadCells (P := P) rt
      have hlen : (cs.take ty.size).length = ty.size := by simp; omega
      rw [hlen] at hd
      refine ⟨.agg ds.toArray, ?_, RelV.aggOf (by simpa using hL) rt.scalar⟩
      simp [loadVar, hty.run_isAgg, hb, hty.run_sizeOf, hd]
    · simp at h1
  | false =>
    rw [hb] at hh
    have hh : nthD cs 0 = some v := hh
    rw [nthD_eq] at hh
    obtain ⟨c, hc, hr⟩ := r.cell hh
    refine ⟨c, ?_, hr⟩
    have hc : w.cell? ⟨blk, off, none⟩ = some c := by simpa using hc
    simp [loadVar, hty.run_isAgg, hb, hc]

/-- The row behind a pointer into a box. -/
theorem St.rowAt (s : St cx base hp μ h) {b ep i : Nat} {L : Loc} {x : T} (hb : μ b = some L) (he : h.elem b ep i = some x) : RowAt hp μ L.blk (i * L.sz) x.cells ∧ x.cells.length = L.sz := by
  obtain ⟨bx, hg, hok⟩ := s.box b L hb
  unfold H.elem at he
  rw [hg] at he
  obtain ⟨sz, ep', ver, ex, it, elems⟩ := bx
  have he : chk (Nat.beq ep' ep) (@Bool.rec (fun _ => Option T) (nthD elems i) none it) = some x := he
  obtain ⟨_, he⟩ := chk_eq_some.1 he
  cases it with
  | true => simp at he
  | false =>
    have he : elems[i]? = some x := by rw [← nthD_eq]; exact he
    have c := hok.plain rfl
    obtain ⟨arr, t, h1, h2, hL⟩ := c.row
    have hmem : x ∈ elems := List.mem_of_getElem? he
    have hlen := c.size x hmem
    have hi : i < elems.length := by
      rcases Nat.lt_or_ge i elems.length with y | y
      · exact y
      · simp [List.getElem?_eq_none y] at he
    have hfl := flat_length c.size
    refine ⟨⟨⟨arr, t, (0, 0), h1, ?_, fun k v hv => ?_⟩, fun v hv => c.scalar v ?_⟩, hlen⟩
    · rw [hlen, h2]
      have : i + 1 ≤ L.cap := by have := c.room; simp only [] at this; omega
      calc i * L.sz + L.sz = (i + 1) * L.sz := by rw [Nat.succ_mul]
        _ ≤ L.cap * L.sz := Nat.mul_le_mul_right _ this
    · have hk : k < x.cells.length := by
        rcases Nat.lt_or_ge k x.cells.length with y | y
        · exact y
        · simp [List.getElem?_eq_none y] at hv
      have hget : (flat elems)[i * L.sz + k]? = some v := by
        have hd := flat_drop c.size i
        have : elems.drop i = x :: elems.drop (i + 1) := by
          rw [List.drop_eq_getElem_cons hi]
          congr 1
          simpa [hi] using he
        rw [this, flat_cons] at hd
        rw [← List.getElem?_drop, hd, List.getElem?_append_left hk]
        exact hv
      obtain ⟨c', hc', hr⟩ := hL.get hget
      rw [List.getElem?_take] at hc'
      split at hc'
      · have : arr[i * L.sz + k]? = some c' := by simpa using hc'
        rw [Array.getD_eq_getD_getElem?, this]; exact hr
      · simp at hc'
    · exact List.mem_flatMap.2 ⟨x, hmem, hv⟩

theorem St.elem_ep (s : St cx base hp μ h) {b ep i : Nat} {L : Loc} {x : T} (hb : μ b = some L) (he : h.elem b ep i = some x) : ep = L.ep := by
  obtain ⟨bx, hg, hok⟩ := s.box b L hb
  unfold H.elem at he
  rw [hg] at he
  obtain ⟨sz, ep', ver, ex, it, elems⟩ := bx
  have he : chk (Nat.beq ep' ep) (@Bool.rec (fun _ => Option T) (nthD elems i) none it) = some x := he
  obtain ⟨h1, _⟩ := chk_eq_some.1 he
  have := Nat.eq_of_beq_eq_true h1
  have := hok.ep
  simp only [] at this
  omega

theorem load_sound {t : TypeId} {ty : Ty} {p v : T} {c : Value} (hty : TyOk P t ty) (s : St cx base w.heap μ h) (hc : RelV w.heap μ p c) (hh : h.load ty p = some v) :
    ∃ ad d, c = .pointer (some ad) ∧ (loadVar t ad).run P w = .ok d w ∧ RelV w.heap μ v d := by
  unfold H.load at hh
  cases p <;> simp at hh
  · rename_i b ep i j
    replace hh := bnd_eq_some.1 hh; obtain ⟨x, he, hh⟩ := hh
    replace hh := bnd_eq_some.1 hh; obtain ⟨cs, hd, hh⟩ := hh
    obtain ⟨L, ad, hq, hb, _, ha⟩ := hc.inv_ptr
    have hep := s.elem_ep hb he
    obtain ⟨r, hlen⟩ := s.rowAt hb he
    rw [dropN_eq] at hd
    split at hd
    · rename_i hle
      simp at hd; subst hd
      obtain ⟨d, h1, h2⟩ := readAs_sound hty (r.drop j hle) hh
      exact ⟨ad, d, hq, by rw [ha hep]; exact h1, h2⟩
    · simp at hd
  · rename_i cells
    obtain ⟨blk, off, arr, t', fz, hq, hn, hh', hs, hsc, hr⟩ := hc.inv_tptr
    obtain ⟨d, h1, h2⟩ := readAs_sound hty ⟨⟨arr, t', fz, hh', hs, hr⟩, (fun v hv => (hsc v hv).1)⟩ hh
    exact ⟨⟨blk, off, none⟩, d, hq, h1, h2⟩

theorem hLoad_sound (tys : TysOk P cx) {t : TypeId} {x : Operand} (s : St cx base w.heap μ h) (r : RelE w.heap μ mask e a.tmps) (ho : o.op = .load t x) {v : T} {h' : H}
    (hh : hLoad t x cx mask e h = some (.val v h')) : Done cx base w μ h.size ((execOp a.eval o).run P w) v h' := by
  replace hh := bnd_eq_some.1 hh; obtain ⟨ty, hty, hh⟩ := hh
  replace hh := bnd_eq_some.1 hh; obtain ⟨p, hp, hh⟩ := hh
  obtain ⟨hv, rfl⟩ := val_eq_some.1 hh
  obtain ⟨ad, d, hq, h1, h2⟩ := load_sound (tys.ty _ _ hty) s (opnd_sound s r hp) hv
  exact Done.pure s (by simp [execOp, ho, Instr.loadAt, hq, Instr.sureAddr, h1]) h2

theorem fieldOf_sound (tys : TysOk P cx) {t : TypeId} {f : Nat} {fd : Nat × TypeId} (hh : fieldOf cx t f = some fd) : ∃ fields fl, P.underlying t = some (.struct fields) ∧ fields[f]? = some fl ∧ fl.offset = fd.1 ∧ fl.type = fd.2 ∧
    ∃ i, P.info? fl.type = some i ∧ i.size ≠ 0 := by
  replace hh := bnd_eq_some.1 hh; obtain ⟨ty, hty, hh⟩ := hh
  obtain ⟨d, h1, h2⟩ := und_of (tys.ty _ _ hty)
  cases hu : ty.u <;> rw [hu] at hh h2 <;> simp at hh
  obtain ⟨fields, rfl, hfs, hall⟩ := uOf_struct h2
  subst hfs
  rw [List.getElem?_map] at hh
  cases hf : fields.toList[f]? with
  | none => rw [hf] at hh; simp at hh
  | some fl =>
    rw [hf] at hh
    simp at hh
    refine ⟨fields, fl, h1, by simpa using hf, by rw [← hh], by rw [← hh], hall fl (List.mem_of_getElem? hf)⟩

theorem hFieldAddr_sound (tys : TysOk P cx) {t : TypeId} {x : Operand} {f : Nat} (s : St cx base w.heap μ h) (r : RelE w.heap μ mask e a.tmps) (ho : o.op = .fieldAddr t x f) {v : T} {h' : H}
    (hh : hFieldAddr t x f cx mask e h = some (.val v h')) : Done cx base w μ h.size ((execOp a.eval o).run P w) v h' := by
  replace hh := bnd_eq_some.1 hh; obtain ⟨fd, hfd, hh⟩ := hh
  replace hh := bnd_eq_some.1 hh; obtain ⟨p, hp, hh⟩ := hh
  obtain ⟨fields, fl, h1, h2, h3, h4, i, h5, h6⟩ := fieldOf_sound tys hfd
  have hc := opnd_sound s r hp
  have hrun : ∀ ad : Addr, a.eval x = .pointer (some ad) → (execOp a.eval o).run P w = .ok (.value (.pointer (some (ad.add fd.1)))) w := by
    intro ad hq
    simp [execOp, ho, Instr.fieldAt, run_underlying h1, h2, hq, Instr.sureAddr, fieldPlace, sizeOf, typeInfo, h5, h6, h3]
  cases p <;> simp at hh
  · rename_i b ep i0 j
    obtain ⟨rfl, rfl⟩ := hh
    obtain ⟨L, ad, hq, hb, hep, ha⟩ := hc.inv_ptr
    refine Done.pure s (hrun ad hq) (.ptr b ep i0 (j + fd.1) L _ hb hep fun he => ?_)
    rw [ha he, add_none, Nat.add_assoc]
  · rename_i cells
    replace hh := bnd_eq_some.1 hh; obtain ⟨cs, hd, hh⟩ := hh
    simp at hh
    obtain ⟨rfl, rfl⟩ := hh
    obtain ⟨blk, off, arr, t', fz, hq, hn, hh', hs, hsc, hr⟩ := hc.inv_tptr
    rw [dropN_eq] at hd
    split at hd
    · rename_i hle
      simp at hd; subst hd
      refine Done.pure s (hrun _ hq) ?_
      rw [add_none]
      refine .tptr _ blk (off + fd.1) arr t' fz hn hh' (by simp; omega) (fun v hv => hsc v (List.mem_of_mem_drop hv)) fun k v hv => ?_
      rw [List.getElem?_drop] at hv
      have := hr _ v hv
      rwa [← Nat.add_assoc] at this
    · simp at hd

/-- A part of a row of cells that a value holds. -/
theorem readAs_part {t : TypeId} {ty : Ty} {cs : List T} {ds : Array Value} {off : Nat} {v : T} (hty : TyOk P t ty) (hL : RelL hp μ cs (ds.toList.drop off)) (hs : ∀ x ∈ cs, x.scalar = true) (hh : readAs ty cs = some v) :
    ∃ c, (part t ds off).run P w = .ok c w ∧ RelV hp μ v c := by
  unfold readAs at hh
  cases hb : ty.isAgg with
  | true =>
    rw [hb] at hh
    have hh : (bnd (takeN ty.size cs) fun r => some (T.agg r)) = some v := hh
    obtain ⟨q, h1, h2⟩ := bnd_eq_some.1 hh
    rw [takeN_eq] at h1
    split at h1
    · rename_i hle
      simp at h1 h2; subst h1; subst h2
      refine ⟨.agg (ds.extract off (off + ty.size)), by simp [part, hty.run_isAgg, hb, hty.run_sizeOf], RelV.aggOf ?_ fun x hx => hs x (List.mem_of_mem_take hx)⟩
      have := hL.take ty.size
      rw [Array.toList_extract]
      simpa [List.extract_eq_take_drop] using this
    · simp at h1
  | false =>
    rw [hb] at hh
    have hh : nthD cs 0 = some v := hh
    rw [nthD_eq] at hh
    obtain ⟨c, hc, hr⟩ := hL.get hh
    refine ⟨c, ?_, hr⟩
    have hc : ds[off]? = some c := by simpa using hc
    simp [part, hty.run_isAgg, hb, hc]

theorem hField_sound (tys : TysOk P cx) {t : TypeId} {x : Operand} {f : Nat} (s : St cx base w.heap μ h) (r : RelE w.heap μ mask e a.tmps) (ho : o.op = .field t x f) {v : T} {h' : H}
    (hh : hField t x f cx mask e h = some (.val v h')) : Done cx base w μ h.size ((execOp a.eval o).run P w) v h' := by
  replace hh := bnd_eq_some.1 hh; obtain ⟨fd, hfd, hh⟩ := hh
  replace hh := bnd_eq_some.1 hh; obtain ⟨tf, htf, hh⟩ := hh
  replace hh := bnd_eq_some.1 hh; obtain ⟨p, hp, hh⟩ := hh
  obtain ⟨fields, fl, h1, h2, h3, h4, _⟩ := fieldOf_sound tys hfd
  have hc := opnd_sound s r hp
  cases p <;> simp at hh
  replace hh := bnd_eq_some.1 hh; obtain ⟨cs, hd, hh⟩ := hh
  obtain ⟨hv, rfl⟩ := val_eq_some.1 hh
  obtain ⟨ds, hq, hL, hs⟩ := hc.inv_agg
  rw [dropN_eq] at hd
  split at hd
  · simp at hd; subst hd
    obtain ⟨c, hc1, hc2⟩ := readAs_part (P := P) (w := w) (tys.ty _ _ htf) (hL.drop fd.1) (fun x hx => hs x (List.mem_of_mem_drop hx)) hv
    refine Done.pure s ?_ hc2
    simp [execOp, ho, Instr.field, run_underlying h1, h2, hq, asAgg, h3, h4, hc1]
  · simp at hd

theorem toIdx_eq_some {v : T} {n : Nat} (hh : toIdx v = some n) : ∃ k, v = .int k (.ofNat n) := by
  unfold toIdx at hh
  cases v <;> simp at hh
  rename_i k m
  cases m with
  | ofNat m => simp at hh; subst hh; exact ⟨k, rfl⟩
  | negSucc m => simp at hh

theorem hIndex_sound (tys : TysOk P cx) {t : TypeId} {x y : Operand} (s : St cx base w.heap μ h) (r : RelE w.heap μ mask e a.tmps) (ho : o.op = .index t x y) {v : T} {h' : H}
    (hh : hIndex t x y cx mask e h = some (.val v h')) : Done cx base w μ h.size ((execOp a.eval o).run P w) v h' := by
  replace hh := bnd_eq_some.1 hh; obtain ⟨ty, hty, hh⟩ := hh
  replace hh := bnd_eq_some.1 hh; obtain ⟨p, hp, hh⟩ := hh
  replace hh := bnd_eq_some.1 hh; obtain ⟨q, hq, hh⟩ := hh
  replace hh := bnd_eq_some.1 hh; obtain ⟨i, hi, hh⟩ := hh
  obtain ⟨k, hk⟩ := toIdx_eq_some hi
  obtain ⟨d, hd, hu⟩ := und_of (tys.ty _ _ hty)
  have hx := opnd_sound s r hp
  have hy := (hk ▸ opnd_sound s r hq).inv_int
  cases hut : ty.u <;> rw [hut] at hh hu <;> simp at hh
  · -- a string
    have := uOf_str hu; subst this
    cases p <;> simp at hh
    rename_i str
    replace hh := bnd_eq_some.1 hh; obtain ⟨c, hc, hh⟩ := hh
    obtain ⟨hv, rfl⟩ := val_eq_some.1 hh
    simp at hv; subst hv
    obtain ⟨e1, b1⟩ := hx.inv_str
    refine Done.pure (c := .int .u8 (c : Int)) s ?_ (.int _ _)
    have hlt : i < str.length := by
      rcases Nat.lt_or_ge i str.length with z | z
      · exact z
      · simp [List.getElem?_eq_none z] at hc
    have hci : str[i] = c := by simpa [hlt] using hc
    have hcb : c < 256 := b1 c (by rw [← hci]; exact List.getElem_mem hlt)
    have hget : (bytesOf str)[i]? = some (UInt8.ofNat c) := by
      have hs : i < (bytesOf str).size := by rw [size_bytesOf]; exact hlt
      rw [getElem?_pos (bytesOf str) i hs]
      congr 1
      show (bytesOf str).data[i] = _
      simp [bytesOf, hci]
    simp [execOp, ho, Instr.index, hy, asIntOf, run_underlying hd, e1, hget, toNat_ofNat_lt hcb]
  · rename_i n el
    have := uOf_array hu; subst this
    cases p <;> simp at hh
    rename_i cells
    replace hh := bnd_eq_some.1 hh; obtain ⟨te, hte, hh⟩ := hh
    replace hh := chk_eq_some.1 hh; obtain ⟨hb, hh⟩ := hh
    replace hh := bnd_eq_some.1 hh; obtain ⟨cs, hdr, hh⟩ := hh
    obtain ⟨hv, rfl⟩ := val_eq_some.1 hh
    obtain ⟨ds, e1, hL, hsc⟩ := hx.inv_agg
    rw [dropN_eq] at hdr
    split at hdr
    · simp at hdr; subst hdr
      obtain ⟨c, hc1, hc2⟩ := readAs_part (P := P) (w := w) (tys.ty _ _ hte) (hL.drop (i * te.size)) (fun x hx => hsc x (List.mem_of_mem_drop hx)) hv
      refine Done.pure s ?_ hc2
      rw [Nat.blt_eq] at hb
      have hlt' : ¬ n ≤ i := by omega
      simp [execOp, ho, Instr.index, hy, asIntOf, run_underlying hd, e1, hlt', (tys.ty _ _ hte).run_sizeOf, hc1]
    · simp at hdr
end
end Go.TI

/- Reading, part 2: indices, lengths, slices of slices, conversions. -/
namespace Go.TI
section
variable {P : Program} {cx : Ctx} {base : Nat} {w : World} {μ : Mu} {h : H} {mask : Nat} {e : Env} {a : Act} {o : Oper} {hp : Array Obj}

theorem St.sz_of (s : St cx base hp μ h) {b : Nat} {L : Loc} {bx : Box} (hb : μ b = some L) (hg : h.get b = some bx) : bx.sz = L.sz ∧ bx.ep = L.ep := by
  obtain ⟨x, h1, h2⟩ := s.box b L hb
  rw [h1] at hg; simp at hg; subst hg
  exact ⟨h2.sz, h2.ep⟩

theorem flat_get {sz : Nat} {es : List T} (hu : ∀ v ∈ es, v.cells.length = sz) {i k : Nat} {v z : T} (hv : es[i]? = some v) (hz : v.cells[k]? = some z) : (flat es)[i * sz + k]? = some z := by
  have hi : i < es.length := by
    rcases Nat.lt_or_ge i es.length with y | y
    · exact y
    · rw [List.getElem?_eq_none y] at hv; simp at hv
  have hk : k < v.cells.length := by
    rcases Nat.lt_or_ge k v.cells.length with y | y
    · exact y
    · rw [List.getElem?_eq_none y] at hz; simp at hz
  have hd := flat_drop hu i
  have hvi : es[i] = v := by rw [List.getElem?_eq_getElem hi] at hv; simpa using hv
  rw [List.drop_eq_getElem_cons hi, hvi, flat_cons] at hd
  rw [← List.getElem?_drop, hd, List.getElem?_append_left hk]
  exact hz

theorem tree_elem {x : T} {es : List T} {blk off sz i : Nat} {arr : Array Value} {t : TypeId} {fz : Nat × Nat} {v : T} (hn : ¬ InMu μ blk) (hh : hp[blk]? = some (.cells arr t fz))
    (hu : ∀ v ∈ x :: es, v.cells.length = sz) (hs : off + (flat (x :: es)).length ≤ arr.size) (hc : ∀ v ∈ flat (x :: es), Shut v)
    (hr : ∀ (k : Nat) v, (flat (x :: es))[k]? = some v → RelV hp μ v (arr.getD (off + k) Go.undef)) (hv : (x :: es)[i]? = some v) :
    RelV hp μ (.tptr v.cells) (.pointer (some ⟨blk, off + i * sz, none⟩)) := by
  have hmem := List.mem_of_getElem? hv
  have hi : i < (x :: es).length := by
    rcases Nat.lt_or_ge i (x :: es).length with y | y
    · exact y
    · simp [List.getElem?_eq_none y] at hv
  have hfl := flat_length hu
  have hlen := hu v hmem
  refine .tptr v.cells blk (off + i * sz) arr t fz hn hh ?_ (fun z hz => hc z (List.mem_flatMap.2 ⟨v, hmem, hz⟩)) fun k z hz => ?_
  · rw [hlen]
    have : i * sz + sz ≤ (flat (x :: es)).length := by
      rw [hfl]
      calc i * sz + sz = (i + 1) * sz := by rw [Nat.succ_mul]
        _ ≤ (x :: es).length * sz := Nat.mul_le_mul_right _ hi
    omega
  · have := hr _ z (flat_get hu hv hz)
    rwa [← Nat.add_assoc] at this

theorem hIndexAddr_sound (tys : TysOk P cx) {t : TypeId} {x y : Operand} (s : St cx base w.heap μ h) (r : RelE w.heap μ mask e a.tmps) (ho : o.op = .indexAddr t x y) {v : T} {h' : H}
    (hh : hIndexAddr t x y cx mask e h = some (.val v h')) : Done cx base w μ h.size ((execOp a.eval o).run P w) v h' := by
  replace hh := bnd_eq_some.1 hh; obtain ⟨ty, hty, hh⟩ := hh
  replace hh := bnd_eq_some.1 hh; obtain ⟨p, hp, hh⟩ := hh
  replace hh := bnd_eq_some.1 hh; obtain ⟨q, hq, hh⟩ := hh
  replace hh := bnd_eq_some.1 hh; obtain ⟨i, hi, hh⟩ := hh
  obtain ⟨k, hk⟩ := toIdx_eq_some hi
  obtain ⟨d, hd, hu⟩ := und_of (tys.ty _ _ hty)
  have hx := opnd_sound s r hp
  have hy := (hk ▸ opnd_sound s r hq).inv_int
  cases hut : ty.u <;> rw [hut] at hh hu <;> simp at hh
  · rename_i el
    have := uOf_slice hu; subst this
    replace hh := bnd_eq_some.1 hh; obtain ⟨te, hte, hh⟩ := hh
    have hsz := (tys.ty _ _ hte).run_sizeOf w
    unfold idxSlice at hh
    cases p <;> simp at hh
    · rename_i es full
      replace hh := bnd_eq_some.1 hh; obtain ⟨z, hz, hh⟩ := hh
      replace hh := chk_eq_some.1 hh; obtain ⟨hl, hh⟩ := hh
      simp at hh; obtain ⟨rfl, rfl⟩ := hh
      have hl := Nat.eq_of_beq_eq_true hl
      cases es with
      | nil => simp at hz
      | cons x0 es =>
        obtain ⟨blk, off, cap, sz, arr, t', fz, e1, hn, hh', hl', hf, huu, hs, hc, hr⟩ := hx.inv_tree
        have hszz : sz = te.size := by rw [← huu z (List.mem_of_getElem? hz)]; exact hl
        have hlt : i < es.length + 1 := by
          rcases Nat.lt_or_ge i (x0 :: es).length with y | y
          · simpa using y
          · rw [List.getElem?_eq_none y] at hz; simp at hz
        have hlt' : ¬ ((es.length : Int) + 1 ≤ (i : Int)) := by omega
        refine Done.pure s ?_ (tree_elem hn hh' huu hs hc hr hz)
        rw [← add_none, hszz]
        have hno : ¬ es.length + 1 ≤ i := by omega
        simp [execOp, ho, Instr.indexAt, hy, asIntOf, run_underlying hd, e1, hsz, hno]
    · rename_i b ep o' l full
      replace hh := chk_eq_some.1 hh; obtain ⟨hl, hh⟩ := hh
      replace hh := bnd_eq_some.1 hh; obtain ⟨bx, hbx, hh⟩ := hh
      replace hh := chk_eq_some.1 hh; obtain ⟨h1, hh⟩ := hh
      replace hh := chk_eq_some.1 hh; obtain ⟨h2, hh⟩ := hh
      simp at hh; obtain ⟨rfl, rfl⟩ := hh
      rw [Nat.blt_eq] at hl
      have h1 := Nat.eq_of_beq_eq_true h1
      have h2 := Nat.eq_of_beq_eq_true h2
      obtain ⟨L, ad, cp, e1, hb, hep, hcp, hcur⟩ := hx.inv_arr
      obtain ⟨g1, g2⟩ := s.sz_of hb hbx
      obtain ⟨c1, c2, c3⟩ := hcur (by omega)
      have hne : cp ≠ 0 := by omega
      rw [c3 hne] at e1
      refine Done.pure (c := .pointer (some ⟨L.blk, (o' + i) * L.sz, none⟩)) s ?_ (.ptr b ep (o' + i) 0 L _ hb hep fun _ => by simp)
      have hno : ¬ l ≤ i := by omega
      have hadd : (⟨L.blk, o' * L.sz, none⟩ : Addr).add (i * te.size) = ⟨L.blk, (o' + i) * L.sz, none⟩ := by
        rw [add_none, ← h1, g1, Nat.add_mul]
      simp [execOp, ho, Instr.indexAt, hy, asIntOf, run_underlying hd, e1, hsz, hno, hadd]
  · rename_i n el
    have := uOf_array hu; subst this
    replace hh := bnd_eq_some.1 hh; obtain ⟨te, hte, hh⟩ := hh
    have hsz := (tys.ty _ _ hte).run_sizeOf w
    unfold idxArray at hh
    replace hh := chk_eq_some.1 hh; obtain ⟨hl, hh⟩ := hh
    rw [Nat.blt_eq] at hl
    have hno : ¬ n ≤ i := by omega
    have hrun : ∀ ad : Addr, a.eval x = .pointer (some ad) → (execOp a.eval o).run P w = .ok (.value (.pointer (some (ad.add (i * te.size))))) w := by
      intro ad hq
      simp [execOp, ho, Instr.indexAt, hy, asIntOf, run_underlying hd, hq, Instr.sureAddr, hsz, hno]
    cases p <;> simp at hh
    · rename_i b ep i0 j
      replace hh := bnd_eq_some.1 hh; obtain ⟨bx, hbx, hh⟩ := hh
      obtain ⟨L, ad, hq', hb, hep, ha⟩ := hx.inv_ptr
      obtain ⟨g1, g2⟩ := s.sz_of hb hbx
      cases hbs : Nat.beq bx.sz te.size with
      | false =>
        rw [hbs] at hh
        have hh : some (Did.val (T.ptr b ep i0 (j + i * te.size)) h) = some (.val v h') := hh
        simp only [Option.some.injEq, Did.val.injEq] at hh
        obtain ⟨rfl, rfl⟩ := hh
        refine Done.pure s (hrun ad hq') (.ptr b ep i0 (j + i * te.size) L _ hb hep fun he => ?_)
        rw [ha he, add_none, Nat.add_assoc]
      | true =>
        rw [hbs] at hh
        have hh : chk (Nat.beq j 0) (some (Did.val (T.ptr b ep (i0 + i) 0) h)) = some (.val v h') := hh
        replace hh := chk_eq_some.1 hh; obtain ⟨hj, hh⟩ := hh
        have hj := Nat.eq_of_beq_eq_true hj
        subst hj
        simp only [Option.some.injEq, Did.val.injEq] at hh
        obtain ⟨rfl, rfl⟩ := hh
        have hbs := Nat.eq_of_beq_eq_true hbs
        refine Done.pure s (hrun ad hq') (.ptr b ep (i0 + i) 0 L _ hb hep fun he => ?_)
        rw [ha he, add_none, ← hbs, g1, Nat.add_mul]
        simp
    · rename_i cells
      replace hh := bnd_eq_some.1 hh; obtain ⟨cs, hdr, hh⟩ := hh
      simp at hh
      obtain ⟨rfl, rfl⟩ := hh
      obtain ⟨blk, off, arr, t', fz, hq', hn, hh', hs, hsc, hr⟩ := hx.inv_tptr
      rw [dropN_eq] at hdr
      split at hdr
      · rename_i hle
        simp at hdr; subst hdr
        refine Done.pure s (hrun _ hq') ?_
        rw [add_none]
        refine .tptr _ blk (off + i * te.size) arr t' fz hn hh' (by simp; omega) (fun v hv => hsc v (List.mem_of_mem_drop hv)) fun k v hv => ?_
        rw [List.getElem?_drop] at hv
        have := hr _ v hv
        rwa [← Nat.add_assoc] at this
      · simp at hdr
end
end Go.TI

/- Reading, part 3: lengths, slices of slices, conversions. -/
namespace Go.TI
section
variable {P : Program} {cx : Ctx} {base : Nat} {w : World} {μ : Mu} {h : H} {mask : Nat} {e : Env} {a : Act} {o : Oper} {hp : Array Obj}

theorem hConv_sound (tys : TysOk P cx) {src dst : TypeId} {x : Operand} (s : St cx base w.heap μ h) (r : RelE w.heap μ mask e a.tmps) (ho : o.op = .convert src dst x) {v : T} {h' : H} {p : T}
    (hsrc : ∃ ty, cx.ty src = some ty) (hp : opnd cx mask e x = some p) (hv : conv cx dst p = some v) (hh : h' = h) : Done cx base w μ h.size ((execOp a.eval o).run P w) v h' := by
  subst hh
  obtain ⟨ts, hsrc⟩ := hsrc
  obtain ⟨ds, hds, _⟩ := und_of (tys.ty _ _ hsrc)
  replace hv := bnd_eq_some.1 hv; obtain ⟨ty, hty, hv⟩ := hv
  obtain ⟨d, hd, hu⟩ := und_of (tys.ty _ _ hty)
  have hx := opnd_sound s r hp
  cases hut : ty.u <;> rw [hut] at hv hu <;> simp at hv
  · have := uOf_int hu; subst this
    cases p <;> simp at hv
    subst hv
    exact Done.pure s (by simp [execOp, ho, convert, run_underlying hds, run_underlying hd, hx.inv_int, Conv.intToInt]) (.int _ _)
  · have := uOf_str hu; subst this
    cases p <;> simp at hv
    subst hv
    obtain ⟨e1, b1⟩ := hx.inv_str
    exact Done.pure s (by simp [execOp, ho, convert, run_underlying hds, run_underlying hd, e1]) (.str _ b1)

theorem optIdx_sound {x : Option Operand} {n : Option Nat} (s : St cx base w.heap μ h) (r : RelE w.heap μ mask e a.tmps) (hh : optIdx cx mask e x = some n) :
    (x = none ∧ n = none) ∨ ∃ op k m, x = some op ∧ n = some m ∧ a.eval op = .int k (m : Nat) := by
  cases x with
  | none => left; simp [optIdx] at hh; exact ⟨rfl, hh.symm⟩
  | some op =>
    right
    have hh : (bnd (opnd cx mask e op) fun v => bnd (toIdx v) fun n => some (some n)) = some n := hh
    replace hh := bnd_eq_some.1 hh; obtain ⟨v, hv, hh⟩ := hh
    replace hh := bnd_eq_some.1 hh; obtain ⟨m, hm, hh⟩ := hh
    simp at hh; subst hh
    obtain ⟨k, hk⟩ := toIdx_eq_some hm
    exact ⟨op, k, m, rfl, rfl, (hk ▸ opnd_sound s r hv).inv_int⟩

theorem run_sliceBound {v : Value} {k : IntKind} {m : Nat} (hv : v = .int k (m : Nat)) {y : Nat} (hle : m ≤ y) (code : BoundsCode) : (Instr.sliceBound v y code).run P w = .ok m w := by
  subst hv
  have h1 : 0 ≤ ((m : Nat) : Int) ∧ ((m : Nat) : Int) ≤ (y : Int) := ⟨by omega, by omega⟩
  simp only [Instr.sliceBound, asIntOf, Sem.run_bind, Sem.run_pure, Result.andThen_ok, h1, and_self, if_true]
  simp

/-- The bounds of a slice expression, where they stand. -/
theorem run_sliceBounds {isS : Bool} {len cap : Nat} {lo hi mx : Option Operand} {nlo nhi nmx : Option Nat}
    (h1 : (lo = none ∧ nlo = none) ∨ ∃ op k m, lo = some op ∧ nlo = some m ∧ a.eval op = .int k (m : Nat)) (h2 : (hi = none ∧ nhi = none) ∨ ∃ op k m, hi = some op ∧ nhi = some m ∧ a.eval op = .int k (m : Nat))
    (h3 : (mx = none ∧ nmx = none) ∨ ∃ op k m, mx = some op ∧ nmx = some m ∧ a.eval op = .int k (m : Nat)) (hmx : ∀ m, nmx = some m → m ≤ cap ∧ nhi = some m) (hl : optD nlo 0 ≤ optD nhi len) (hh : optD nhi len ≤ len) (hc : len ≤ cap) :
    (Instr.sliceBounds isS len cap (lo.map a.eval) (hi.map a.eval) (mx.map a.eval)).run P w = .ok (optD nlo 0, optD nhi len, optD nmx cap) w := by
  rcases h3 with ⟨rfl, rfl⟩ | ⟨op3, k3, m3, rfl, rfl, e3⟩
  · rcases h2 with ⟨rfl, rfl⟩ | ⟨op2, k2, m2, rfl, rfl, e2⟩
    · rcases h1 with ⟨rfl, rfl⟩ | ⟨op1, k1, m1, rfl, rfl, e1⟩
      · simp [Instr.sliceBounds, optD]
      · have hl : m1 ≤ len := hl
        simp [Instr.sliceBounds, optD, run_sliceBound e1 hl]
    · have hh : m2 ≤ len := hh
      have hh2 : m2 ≤ cap := by omega
      rcases h1 with ⟨rfl, rfl⟩ | ⟨op1, k1, m1, rfl, rfl, e1⟩
      · simp [Instr.sliceBounds, optD, run_sliceBound e2 hh2]
      · have hl : m1 ≤ m2 := hl
        simp [Instr.sliceBounds, optD, run_sliceBound e2 hh2, run_sliceBound e1 hl]
  · obtain ⟨hm, hnh⟩ := hmx m3 rfl
    rcases h2 with ⟨rfl, rfl⟩ | ⟨op2, k2, m2, rfl, rfl, e2⟩
    · simp at hnh
    · simp at hnh; subst hnh
      rcases h1 with ⟨rfl, rfl⟩ | ⟨op1, k1, m1, rfl, rfl, e1⟩
      · simp [Instr.sliceBounds, optD, run_sliceBound e2 (Nat.le_refl _), run_sliceBound e3 hm]
      · have hl : m1 ≤ m2 := hl
        simp [Instr.sliceBounds, optD, run_sliceBound e2 (Nat.le_refl _), run_sliceBound e3 hm, run_sliceBound e1 hl]

theorem optD_none (d : Nat) : optD none d = d := rfl

theorem cutL_eq_some {α : Type} {l r : List α} {lo hi : Nat} (hle : lo ≤ hi) (hh : cutL l lo hi = some r) : hi ≤ l.length ∧ r = (l.drop lo).take (hi - lo) := by
  unfold cutL at hh
  obtain ⟨q, h1, h2⟩ := bnd_eq_some.1 hh
  rw [dropN_eq] at h1
  split at h1
  · simp at h1; subst h1
    rw [takeN_eq] at h2
    split at h2
    · rename_i hq
      simp at hq h2
      refine ⟨?_, h2.symm⟩
      omega
    · simp at h2
  · simp at h1

theorem flat_cut {sz : Nat} {es : List T} (hu : ∀ v ∈ es, v.cells.length = sz) (lo n : Nat) : flat ((es.drop lo).take n) = ((flat es).drop (lo * sz)).take (n * sz) := by
  rw [flat_drop hu, flat_take (fun v hv => hu v (List.mem_of_mem_drop hv))]

/-- A part of a tree is a tree. -/
theorem tree_cut {x : T} {es : List T} {blk off sz : Nat} {arr : Array Value} {t : TypeId} {fz : Nat × Nat} {lo hi : Nat} {y : T} {ys : List T} {full : Bool} {cap : Nat} (hn : ¬ InMu μ blk) (hh : hp[blk]? = some (.cells arr t fz))
    (hu : ∀ v ∈ x :: es, v.cells.length = sz) (hs : off + (flat (x :: es)).length ≤ arr.size) (hc : ∀ v ∈ flat (x :: es), Shut v)
    (hr : ∀ (k : Nat) v, (flat (x :: es))[k]? = some v → RelV hp μ v (arr.getD (off + k) Go.undef)) (hlo : lo ≤ hi) (hhi : hi ≤ (x :: es).length) (hy : y :: ys = ((x :: es).drop lo).take (hi - lo))
    (hcap : hi - lo ≤ cap) (hf : full = true → cap = hi - lo) : RelV hp μ (.tree (y :: ys) full) (.slice (some ⟨blk, off + lo * sz, none⟩) (hi - lo) cap) := by
  have hlen : ys.length + 1 = hi - lo := by
    have := congrArg List.length hy
    simp only [List.length_cons, List.length_take, List.length_drop] at this
    simp only [List.length_cons] at hhi
    omega
  have hfl := flat_length hu
  have hcut := flat_cut hu lo (hi - lo)
  rw [← hy] at hcut
  have hmem : ∀ v ∈ y :: ys, v ∈ x :: es := fun v hv => List.mem_of_mem_drop (List.mem_of_mem_take (hy ▸ hv))
  rw [← hlen]
  refine .tree y ys full blk (off + lo * sz) cap sz arr t fz hn hh (by omega) (fun k => by rw [hf k]; omega) (fun v hv => hu v (hmem v hv)) ?_ ?_ ?_
  · rw [hcut]
    simp only [List.length_take, List.length_drop]
    have : lo * sz + (hi - lo) * sz ≤ (flat (x :: es)).length := by
      rw [hfl, ← Nat.add_mul]
      exact Nat.mul_le_mul_right _ (by omega)
    omega
  · intro v hv
    rw [hcut] at hv
    exact hc v (List.mem_of_mem_drop (List.mem_of_mem_take hv))
  · intro k v hv
    rw [hcut, List.getElem?_take] at hv
    split at hv
    · rw [List.getElem?_drop] at hv
      have := hr _ v hv
      rwa [← Nat.add_assoc] at this
    · simp at hv

theorem bytesOf_extract (str : List Nat) (l n : Nat) : (bytesOf str).extract l n = bytesOf ((str.drop l).take (n - l)) := by
  apply ByteArray.ext
  have : ((bytesOf str).extract l n).data.toList = ((bytesOf str).data.toList.drop l).take (n - l) := Lib.extract_data _ _ _
  apply Array.ext'
  rw [this]
  simp [bytesOf, List.map_take, List.map_drop]

theorem slice_array (tys : TysOk P cx) {t : TypeId} {x : Operand} {lo hi mx : Option Operand} (s : St cx base w.heap μ h) (ho : o.op = .slice t x lo hi mx) {n : Nat} {el : TypeId} (hd : P.underlying t = some (.array n el)) {p : T}
    (hx : RelV w.heap μ p (a.eval x)) {nlo nhi nmx : Option Nat}
    (q1 : (lo = none ∧ nlo = none) ∨ ∃ op k m, lo = some op ∧ nlo = some m ∧ a.eval op = .int k (m : Nat)) (q2 : (hi = none ∧ nhi = none) ∨ ∃ op k m, hi = some op ∧ nhi = some m ∧ a.eval op = .int k (m : Nat))
    (q3 : (mx = none ∧ nmx = none) ∨ ∃ op k m, mx = some op ∧ nmx = some m ∧ a.eval op = .int k (m : Nat)) (hok : mxOk nhi nmx = true) (hsl : sliceable cx h (.array n el) p = true) {v : T}
    (hv : sliceT (asSlice (.array n el) p) nlo nhi nmx = some v) : Done cx base w μ h.size ((execOp a.eval o).run P w) v h := by
  unfold sliceable at hsl
  simp only at hsl
  cases hte : cx.ty el with
  | none => rw [hte] at hsl; simp at hsl
  | some te =>
    rw [hte] at hsl
    have hsz := (tys.ty _ _ hte).run_sizeOf w
    have hp : ∃ b ep i0 j, p = .ptr b ep i0 j := by cases p <;> first | exact ⟨_, _, _, _, rfl⟩ | (simp at hsl)
    obtain ⟨b, ep, i0, j, rfl⟩ := hp
    simp only at hsl
    cases hg : h.get b with
    | none => rw [hg] at hsl; simp at hsl
    | some bx =>
      rw [hg] at hsl
      obtain ⟨sz, ep', ver, ex, it, elems⟩ := bx
      simp only [Bool.and_eq_true, Bool.not_eq_true'] at hsl
      obtain ⟨⟨⟨⟨⟨⟨k1, k2⟩, k3⟩, k4⟩, k5⟩, k6⟩, k7⟩ := hsl
      have k1 := Nat.eq_of_beq_eq_true k1
      have k2 := Nat.eq_of_beq_eq_true k2
      have k3 := Nat.eq_of_beq_eq_true k3
      have k4 := Nat.eq_of_beq_eq_true k4
      have k7 := Nat.eq_of_beq_eq_true k7
      rw [lenN_eq] at k7
      subst k3 k4 k5 k6
      obtain ⟨L, ad, hq', hb, hep, ha⟩ := hx.inv_ptr
      obtain ⟨bx, hbx, hbok⟩ := s.box b L hb
      rw [hg] at hbx
      simp only [Option.some.injEq] at hbx
      subst hbx
      have e1 : ep' = L.ep := hbok.ep
      have e2 : sz = L.sz := hbok.sz
      have e3 : L.cap = elems.length := (hbok.plain rfl).exact_ rfl
      have hadr := ha (by omega)
      simp at hadr
      subst hadr
      have hv : sliceArr b ep 0 n false (optD nlo 0) (optD nhi n) nmx = some v := hv
      unfold sliceArr at hv
      replace hv := chk_eq_some.1 hv; obtain ⟨hle, hv⟩ := hv
      replace hv := chk_eq_some.1 hv; obtain ⟨hhl, hv⟩ := hv
      have hle := Nat.le_of_ble_eq_true hle
      have hhl := Nat.le_of_ble_eq_true hhl
      simp only [normNat_eq, bnd_some, Nat.add_eq, Nat.zero_add, Nat.sub_eq] at hv
      have hrun : (∀ m, nmx = some m → m = optD nhi n) →
          (execOp a.eval o).run P w = .ok (.value (.slice (some (if optD nmx n = optD nlo 0 then ⟨L.blk, 0, none⟩ else (⟨L.blk, 0, none⟩ : Addr).add (optD nlo 0 * te.size))) (optD nhi n - optD nlo 0) (optD nmx n - optD nlo 0))) w := by
        intro h3
        have hb := run_sliceBounds (P := P) (w := w) (isS := false) (len := n) (cap := n) q1 q2 q3 (by
          intro m hm
          have hmm := h3 m hm
          cases nhi with
          | none => subst hm; simp [mxOk] at hok
          | some k =>
            have hmm : m = k := hmm
            subst hmm
            have h2 : m ≤ n := hhl
            exact ⟨by omega, rfl⟩) hle hhl (Nat.le_refl _)
        simp [execOp, ho, Instr.sliceAt, run_underlying hd, hq', Instr.sureAddr, hb, hsz]
      have hadd : ∀ c : Nat, (⟨L.blk, 0, none⟩ : Addr).add (c * te.size) = ⟨L.blk, c * L.sz, none⟩ := by
        intro c
        rw [add_none, ← k1, e2]; simp
      cases hnm : nmx with
      | none =>
        subst hnm
        have hres := hrun (by simp)
        have hv : some (T.arr b ep (optD nlo 0) (optD nhi n - optD nlo 0) false) = some v := hv
        simp only [Option.some.injEq] at hv; subst hv
        refine Done.pure s hres (.arr _ _ _ _ _ L _ _ hb hep ?_ fun he => ⟨by simp, fun _ => ?_, fun hne => ?_⟩)
        · show optD nhi n - optD nlo 0 ≤ n - optD nlo 0; omega
        · show optD nlo 0 + (n - optD nlo 0) = L.cap; omega
        · have hne : n - optD nlo 0 ≠ 0 := hne
          have h0 : ¬ optD none n = optD nlo 0 := by show ¬ n = optD nlo 0; omega
          rw [if_neg h0, hadd]
      | some m =>
        subst hnm
        have hv : chk (Nat.beq m (optD nhi n)) (some (T.arr b ep (optD nlo 0) (optD nhi n - optD nlo 0) true)) = some v := hv
        replace hv := chk_eq_some.1 hv; obtain ⟨hmm, hv⟩ := hv
        have hmm := Nat.eq_of_beq_eq_true hmm
        simp only [Option.some.injEq] at hv; subst hv
        have hres := hrun (by intro k hk; simp at hk; omega)
        have hom : optD (some m) n = optD nhi n := hmm
        rw [hom] at hres
        refine Done.pure s hres (.arr _ _ _ _ _ L _ _ hb hep (Nat.le_refl _) fun he => ⟨fun _ => rfl, by simp, fun hne => ?_⟩)
        have h0 : ¬ optD nhi n = optD nlo 0 := by omega
        rw [if_neg h0, hadd]

theorem hSlice_sound (tys : TysOk P cx) {t : TypeId} {x : Operand} {lo hi mx : Option Operand} (s : St cx base w.heap μ h) (r : RelE w.heap μ mask e a.tmps) (ho : o.op = .slice t x lo hi mx) {v : T} {h' : H}
    (hh : hSlice t x lo hi mx cx mask e h = some (.val v h')) : Done cx base w μ h.size ((execOp a.eval o).run P w) v h' := by
  replace hh := bnd_eq_some.1 hh; obtain ⟨ty, hty, hh⟩ := hh
  replace hh := bnd_eq_some.1 hh; obtain ⟨p, hp, hh⟩ := hh
  replace hh := chk_eq_some.1 hh; obtain ⟨hsl, hh⟩ := hh
  replace hh := bnd_eq_some.1 hh; obtain ⟨nlo, hlo, hh⟩ := hh
  replace hh := bnd_eq_some.1 hh; obtain ⟨nhi, hhi, hh⟩ := hh
  replace hh := bnd_eq_some.1 hh; obtain ⟨nmx, hmx, hh⟩ := hh
  replace hh := chk_eq_some.1 hh; obtain ⟨hok, hh⟩ := hh
  obtain ⟨hv, rfl⟩ := val_eq_some.1 hh
  have q1 := optIdx_sound s r hlo
  have q2 := optIdx_sound s r hhi
  have q3 := optIdx_sound s r hmx
  obtain ⟨d, hd, hu⟩ := und_of (tys.ty _ _ hty)
  have hx := opnd_sound s r hp
  by_cases harr : ∃ n el, ty.u = .array n el
  · obtain ⟨n, el, hut⟩ := harr
    rw [hut] at hsl hu hv
    have := uOf_array hu; subst this
    exact slice_array tys s ho hd hx q1 q2 q3 hok hsl hv
  unfold sliceable at hsl
  cases hut : ty.u <;> rw [hut] at hsl hu hv <;> (try simp at hsl)
  · -- a string
    have := uOf_str hu; subst this
    replace hv : sliceT p nlo nhi nmx = some v := hv
    cases p <;> simp at hsl
    rename_i str
    obtain ⟨e1, b1⟩ := hx.inv_str
    unfold sliceT at hv
    cases hnm : nmx with
    | some m => rw [hnm] at hv; simp at hv
    | none =>
      subst hnm
      have hv : chk (Nat.ble (optD nlo 0) (optD nhi (lenN str))) (bnd (cutL str (optD nlo 0) (optD nhi (lenN str))) fun r => some (T.str r)) = some v := hv
      rw [lenN_eq] at hv
      replace hv := chk_eq_some.1 hv; obtain ⟨hle, hv⟩ := hv
      have hle := Nat.le_of_ble_eq_true hle
      replace hv := bnd_eq_some.1 hv; obtain ⟨q, hq, hv⟩ := hv
      obtain ⟨hlen, rfl⟩ := cutL_eq_some hle hq
      simp at hv; subst hv
      have hmn : mx = none := by rcases q3 with ⟨k, _⟩ | ⟨_, _, _, _, k, _⟩; exact k; simp at k
      subst hmn
      have hb := run_sliceBounds (P := P) (w := w) (isS := false) (len := str.length) (cap := str.length) q1 q2 q3 (by simp) hle hlen (Nat.le_refl _)
      simp only [Option.map_none] at hb
      refine Done.pure (c := .string ((bytesOf str).extract (optD nlo 0) (optD nhi str.length))) s ?_ ?_
      · simp [execOp, ho, Instr.sliceAt, Instr.slice, run_underlying hd, e1, size_bytesOf, hb]
      · rw [bytesOf_extract]
        exact .str _ fun c hc => b1 c (List.mem_of_mem_drop (List.mem_of_mem_take hc))
  · rename_i el
    have := uOf_slice hu; subst this
    replace hv : sliceT p nlo nhi nmx = some v := hv
    cases hte : cx.ty el with
    | none => rw [hte] at hsl; simp at hsl
    | some te =>
      rw [hte] at hsl
      have hsz := (tys.ty _ _ hte).run_sizeOf w
      have hmxok : ∀ m, nmx = some m → nhi.isSome = true := by
        intro m hm; subst hm
        cases nhi with
        | none => simp [mxOk] at hok
        | some k => rfl
      -- what the model does
      have hrun : ∀ (ad : Option Addr) (len cap : Nat), a.eval x = .slice ad len cap → len ≤ cap → optD nlo 0 ≤ optD nhi len → optD nhi len ≤ len → (∀ m, nmx = some m → m = optD nhi len) →
          (execOp a.eval o).run P w = .ok (.value (.slice (if optD nmx cap = optD nlo 0 then ad else ad.map (·.add (optD nlo 0 * te.size))) (optD nhi len - optD nlo 0) (optD nmx cap - optD nlo 0))) w := by
        intro ad len cap he hc h1 h2 h3
        have hb := run_sliceBounds (P := P) (w := w) (isS := true) (len := len) (cap := cap) q1 q2 q3 (by
          intro m hm
          have hs := hmxok m hm
          have hmm := h3 m hm
          cases nhi with
          | none => simp at hs
          | some k =>
            have hmm : m = k := hmm
            subst hmm
            have h2 : m ≤ len := h2
            exact ⟨by omega, rfl⟩) h1 h2 hc
        simp [execOp, ho, Instr.sliceAt, Instr.slice, run_underlying hd, he, hb, hsz]
      unfold sliceT at hv
      cases p <;> simp at hsl
      · rename_i es full
        have hv : sliceTree es full (optD nlo 0) (optD nhi es.length) nmx = some v := by rw [← lenN_eq]; exact hv
        unfold sliceTree at hv
        replace hv := chk_eq_some.1 hv; obtain ⟨hle, hv⟩ := hv
        have hle := Nat.le_of_ble_eq_true hle
        replace hv := bnd_eq_some.1 hv; obtain ⟨q, hq, hv⟩ := hv
        obtain ⟨hlen, hqq⟩ := cutL_eq_some hle hq
        cases es with
        | nil =>
          obtain ⟨ad, e1⟩ := hx.inv_tree0
          have hq0 : q = [] := by rw [hqq]; simp
          rw [hq0] at hv
          have hhi0 : optD nhi 0 = 0 := by simpa using hlen
          have hlo0 : optD nlo 0 = 0 := by simp only [List.length_nil] at hle; omega
          cases hnm : nmx with
          | none =>
            subst hnm
            have hv : some (T.tree [] false) = some v := hv
            simp at hv; subst hv
            have := hrun ad 0 0 e1 (Nat.le_refl _) (by omega) (by omega) (by simp)
            refine Done.pure s this ?_
            rw [hlo0, hhi0, optD_none]
            exact .tree0 _ _
          | some m =>
            subst hnm
            have hv : chk (Nat.beq m (optD nhi 0)) (some (T.tree [] false)) = some v := hv
            replace hv := chk_eq_some.1 hv; obtain ⟨hmm, hv⟩ := hv
            have hmm := Nat.eq_of_beq_eq_true hmm
            simp at hv; subst hv
            have := hrun ad 0 0 e1 (Nat.le_refl _) (by omega) (by omega) (by intro k hk; simp at hk; omega)
            refine Done.pure s this ?_
            have hm0 : optD (some m) 0 = 0 := by show m = 0; omega
            rw [hlo0, hhi0, hm0]
            exact .tree0 _ _
        | cons x0 es =>
          obtain ⟨blk, off, cap, sz, arr, t', fz, e1, hn, hh', hl', hf, huu, hs, hc, hr⟩ := hx.inv_tree
          have hszz : sz = te.size := by
            have hsl : Nat.beq (lenN x0.cells) te.size = true := hsl
            have := Nat.eq_of_beq_eq_true hsl
            rw [lenN_eq] at this
            rw [← this]; exact (huu x0 (by simp)).symm
          have hlen' : optD nhi (es.length + 1) ≤ es.length + 1 := by simpa using hlen
          have hle' : optD nlo 0 ≤ optD nhi (es.length + 1) := by simpa using hle
          cases hnm : nmx with
          | none =>
            subst hnm
            have hres := hrun _ _ _ e1 hl' hle' hlen' (by simp)
            cases q with
            | nil =>
              have hv : some T.ewild = some v := hv
              simp at hv; subst hv
              have hz : optD nhi (es.length + 1) - optD nlo 0 = 0 := by
                have := congrArg List.length hqq
                simp only [List.length_nil, List.length_take, List.length_drop, List.length_cons] at this
                omega
              rw [hz] at hres
              exact Done.pure s hres (.ewild _ _)
            | cons y ys =>
              have hv : some (T.tree (y :: ys) (@Bool.rec (fun _ => Bool) false (Nat.beq (optD nhi (x0 :: es).length) (lenN (x0 :: es))) full)) = some v := hv
              have hpos : optD nlo 0 < optD nhi (es.length + 1) := by
                have := congrArg List.length hqq
                simp only [List.length_cons, List.length_take, List.length_drop] at this
                omega
              have hne : ¬ cap = optD nlo 0 := by omega
              simp only [optD_none, hne, if_false, Option.map_some, add_none] at hres
              refine Done.pure s hres ?_
              simp only [Option.some.injEq] at hv
              rw [← hv, ← hszz]
              have := tree_cut (full := @Bool.rec (fun _ => Bool) false (Nat.beq (optD nhi (x0 :: es).length) (lenN (x0 :: es))) full) (cap := cap - optD nlo 0) hn hh' huu hs hc hr hle' (by simpa using hlen') hqq (by omega) (by
                intro hb
                cases full with
                | false => simp at hb
                | true =>
                  have hb : Nat.beq (optD nhi (x0 :: es).length) (lenN (x0 :: es)) = true := hb
                  have := Nat.eq_of_beq_eq_true hb
                  rw [lenN_eq] at this
                  simp only [List.length_cons] at this
                  rw [hf rfl, this])
              exact this
          | some m =>
            subst hnm
            have hv : chk (Nat.beq m (optD nhi (x0 :: es).length)) (@List.rec T (fun _ => Option T) (some (T.tree [] false)) (fun _ _ _ => some (T.tree q true)) q) = some v := hv
            replace hv := chk_eq_some.1 hv; obtain ⟨hmm, hv⟩ := hv
            have hmm := Nat.eq_of_beq_eq_true hmm
            simp only [List.length_cons] at hmm
            have hres := hrun _ _ _ e1 hl' hle' hlen' (by intro k hk; simp at hk; omega)
            have hom : optD (some m) cap = optD nhi (es.length + 1) := hmm
            rw [hom] at hres
            cases q with
            | nil =>
              have hv : some (T.tree [] false) = some v := hv
              simp at hv; subst hv
              have hz : optD nhi (es.length + 1) - optD nlo 0 = 0 := by
                have := congrArg List.length hqq
                simp only [List.length_nil, List.length_take, List.length_drop, List.length_cons] at this
                omega
              rw [hz] at hres
              exact Done.pure s hres (.tree0 _ _)
            | cons y ys =>
              have hv : some (T.tree (y :: ys) true) = some v := hv
              have hpos : optD nlo 0 < optD nhi (es.length + 1) := by
                have := congrArg List.length hqq
                simp only [List.length_cons, List.length_take, List.length_drop] at this
                omega
              have hne : ¬ optD nhi (es.length + 1) = optD nlo 0 := by omega
              simp only [hne, if_false, Option.map_some, add_none] at hres
              refine Done.pure s hres ?_
              simp only [Option.some.injEq] at hv
              rw [← hv, ← hszz]
              exact tree_cut hn hh' huu hs hc hr hle' (by simpa using hlen') hqq (Nat.le_refl _) (fun _ => rfl)
      · -- an empty slice
        obtain ⟨ad, cap, e1⟩ := hx.inv_ewild
        have hv : chk (Nat.beq (optD nlo 0) 0) (chk (Nat.beq (optD nhi 0) 0) (@Option.rec Nat (fun _ => Option T) (some T.ewild) (fun m => chk (Nat.beq m 0) (some (T.tree [] false))) nmx)) = some v := hv
        replace hv := chk_eq_some.1 hv; obtain ⟨h1, hv⟩ := hv
        replace hv := chk_eq_some.1 hv; obtain ⟨h2, hv⟩ := hv
        have h1 := Nat.eq_of_beq_eq_true h1
        have h2 := Nat.eq_of_beq_eq_true h2
        cases hnm : nmx with
        | none =>
          subst hnm
          have hv : some T.ewild = some v := hv
          simp at hv; subst hv
          have := hrun ad 0 cap e1 (Nat.zero_le _) (by omega) (by omega) (by simp)
          rw [h1, h2] at this
          exact Done.pure s this (.ewild _ _)
        | some m =>
          subst hnm
          have hv : chk (Nat.beq m 0) (some (T.tree [] false)) = some v := hv
          replace hv := chk_eq_some.1 hv; obtain ⟨h3, hv⟩ := hv
          have h3 := Nat.eq_of_beq_eq_true h3
          simp at hv; subst hv; subst h3
          have := hrun ad 0 cap e1 (Nat.zero_le _) (by omega) (by omega) (by intro k hk; simp at hk; omega)
          rw [h1, h2] at this
          exact Done.pure s this (.tree0 _ _)
      · rename_i b ep o' l full
        obtain ⟨L, ad, cp, e1, hb, hep, hcp, hcur⟩ := hx.inv_arr
        have hv : sliceArr b ep o' l full (optD nlo 0) (optD nhi l) nmx = some v := hv
        unfold sliceArr at hv
        replace hv := chk_eq_some.1 hv; obtain ⟨hle, hv⟩ := hv
        replace hv := chk_eq_some.1 hv; obtain ⟨hhl, hv⟩ := hv
        have hle := Nat.le_of_ble_eq_true hle
        have hhl := Nat.le_of_ble_eq_true hhl
        simp only [normNat_eq, bnd_some] at hv
        have hbsz : L.sz = te.size := by
          cases hg : h'.get b with
          | none => rw [hg] at hsl; simp at hsl
          | some bx =>
            rw [hg] at hsl
            have hsl : Nat.beq bx.sz te.size = true := hsl
            rw [← Nat.eq_of_beq_eq_true hsl]
            exact (s.sz_of hb hg).1.symm
        have hadd : ∀ c : Nat, cp ≠ 0 → ep = L.ep → ad.map (·.add (c * te.size)) = some ⟨L.blk, (o' + c) * L.sz, none⟩ := by
          intro c hne he
          rw [(hcur he).2.2 hne, ← hbsz]
          simp [add_none, Nat.add_mul]
        cases hnm : nmx with
        | none =>
          subst hnm
          have hres := hrun ad l cp e1 hcp hle hhl (by simp)
          have hv : (@Bool.rec (fun _ => Option T) (some (T.arr b ep (o' + optD nlo 0) (optD nhi l - optD nlo 0) false)) (chk (Nat.beq (optD nhi l) l) (some (T.arr b ep (o' + optD nlo 0) (optD nhi l - optD nlo 0) true))) full) = some v := hv
          cases full with
          | false =>
            simp at hv; subst hv
            refine Done.pure s hres (.arr _ _ _ _ _ L _ _ hb hep ?_ fun he => ⟨by simp, fun _ => ?_, fun hne => ?_⟩)
            · show optD nhi l - optD nlo 0 ≤ cp - optD nlo 0; omega
            · have := (hcur he).2.1 rfl
              show o' + optD nlo 0 + (cp - optD nlo 0) = L.cap
              omega
            · have hne : cp - optD nlo 0 ≠ 0 := hne
              have h0 : ¬ optD none cp = optD nlo 0 := by show ¬ cp = optD nlo 0; omega
              rw [if_neg h0]
              exact hadd _ (by omega) he
          | true =>
            replace hv := chk_eq_some.1 hv; obtain ⟨hel, hv⟩ := hv
            have hel := Nat.eq_of_beq_eq_true hel
            simp at hv; subst hv
            refine Done.pure s hres (.arr _ _ _ _ _ L _ _ hb hep ?_ fun he => ⟨fun _ => ?_, by simp, fun hne => ?_⟩)
            · show optD nhi l - optD nlo 0 ≤ cp - optD nlo 0; omega
            · have := (hcur he).1 rfl
              show cp - optD nlo 0 = optD nhi l - optD nlo 0
              omega
            · have hne : cp - optD nlo 0 ≠ 0 := hne
              have h0 : ¬ optD none cp = optD nlo 0 := by show ¬ cp = optD nlo 0; omega
              rw [if_neg h0]
              exact hadd _ (by omega) he
        | some m =>
          subst hnm
          have hv : chk (Nat.beq m (optD nhi l)) (some (T.arr b ep (o' + optD nlo 0) (optD nhi l - optD nlo 0) true)) = some v := hv
          replace hv := chk_eq_some.1 hv; obtain ⟨hmm, hv⟩ := hv
          have hmm := Nat.eq_of_beq_eq_true hmm
          simp at hv; subst hv
          have hres := hrun ad l cp e1 hcp hle hhl (by intro k hk; simp at hk; omega)
          have hom : optD (some m) cp = optD nhi l := hmm
          rw [hom] at hres
          refine Done.pure s hres (.arr _ _ _ _ _ L _ _ hb hep (Nat.le_refl _) fun he => ⟨fun _ => rfl, by simp, fun hne => ?_⟩)
          have h0 : ¬ optD nhi l = optD nlo 0 := by omega
          rw [if_neg h0]
          exact hadd _ (by omega) he
  · exact absurd ⟨_, _, hut⟩ harr
end
end Go.TI

/- How the state changes: a new box, a changed box. -/
set_option linter.unusedVariables false
namespace Go.TI
section
variable {P : Program} {cx : Ctx} {base : Nat} {w : World} {μ : Mu} {h h' : H} {mask : Nat} {e : Env} {a : Act} {o : Oper} {hp hp' : Array Obj}

theorem St.get_lt (s : St cx base hp μ h) {b : Nat} {L : Loc} (hb : μ b = some L) : b < h.size := by
  obtain ⟨x, h1, _⟩ := s.box b L hb
  rw [H.get_eq] at h1
  split at h1
  · assumption
  · simp at h1

theorem St.new_none (s : St cx base hp μ h) : μ h.size = none := by
  cases hm : μ h.size with
  | none => rfl
  | some L => exact absurd (s.get_lt hm) (Nat.lt_irrefl _)

def setMu (μ : Mu) (b : Nat) (L : Loc) : Mu := ⟨fun c => if c = b then some L else μ c, μ.res⟩

theorem setMu_same (μ : Mu) (b : Nat) (L : Loc) : setMu μ b L b = some L := by simp [setMu]
theorem setMu_other (μ : Mu) {b c : Nat} (L : Loc) (h : c ≠ b) : setMu μ b L c = μ c := by simp [setMu, h]

def H.cons (h : H) (x : Box) : H := ⟨h.size + 1, h.low, x :: h.boxes⟩

theorem H.new_cons (v : Nat → T) (h : H) (x : Box) : h.new v x = some (v h.size, h.cons x) := H.new_eq v h x

theorem H.get_cons_same (hw : h.boxes.length = h.size) (x : Box) : (h.cons x).get h.size = some x := by
  rw [H.get_eq]
  simp [H.cons]

theorem H.get_cons_other {b : Nat} (hb : b < h.size) (x : Box) : (h.cons x).get b = h.get b := by
  rw [H.get_eq, H.get_eq]
  have h1 : b < (h.cons x).size := by show b < h.size + 1; omega
  rw [if_pos h1, if_pos hb]
  show (x :: h.boxes)[h.size + 1 - 1 - b]? = _
  have : h.size + 1 - 1 - b = (h.size - 1 - b) + 1 := by omega
  rw [this]; simp

/-- A new block that is a new box's. -/
theorem St.new (s : St cx base hp μ h) (ob : Obj) (L : Loc) (x : Box) (hblk : L.blk = hp.size) (hx : Ext hp μ (hp.push ob) (setMu μ h.size L) → BoxOk (hp.push ob) (setMu μ h.size L) L x) :
    St cx base (hp.push ob) (setMu μ h.size L) (h.cons x) ∧ Ext hp μ (hp.push ob) (setMu μ h.size L) ∧ Dom μ (setMu μ h.size L) h.size (h.cons x).size := by
  have hnone := s.new_none
  have hext : Ext hp μ (hp.push ob) (setMu μ h.size L) := by
    refine ⟨by simp, fun i hi hn => ⟨?_, ?_⟩, fun b L' hb => ?_, rfl, fun i hi _ => ?_⟩
    rotate_right
    · rw [Array.getElem?_push]; simp; omega
    · rw [Array.getElem?_push]; simp; omega
    · rintro (⟨b, L', hb, rfl⟩ | hr)
      · by_cases hbb : b = h.size
        · subst hbb; rw [setMu_same] at hb; simp at hb; subst hb; omega
        · rw [setMu_other _ _ hbb] at hb; exact hn (.inl ⟨b, L', hb, rfl⟩)
      · exact hn (.inr hr)
    · have : b ≠ h.size := by rintro rfl; rw [hnone] at hb; simp at hb
      exact ⟨L', by rw [setMu_other _ _ this]; exact hb, .inl rfl⟩
  refine ⟨⟨?_, ?_, ?_, ?_, ?_, ?_, ?_, ?_⟩, hext, ?_⟩
  · show (x :: h.boxes).length = h.size + 1
    simp [s.wf]
  · simp; have := s.fit; omega
  · intro b L' hb
    by_cases hbb : b = h.size
    · subst hbb; rw [setMu_same] at hb; simp at hb; subst hb
      exact ⟨x, H.get_cons_same s.wf x, hx hext⟩
    · rw [setMu_other _ _ hbb] at hb
      obtain ⟨y, h1, h2⟩ := s.box b L' hb
      refine ⟨y, by rw [H.get_cons_other (s.get_lt hb)]; exact h1, h2.ext hext ?_⟩
      have := s.lt hb
      rw [Array.getElem?_push]; simp; omega
  · intro b b' L1 L2 h1 h2 he
    by_cases hb : b = h.size <;> by_cases hb' : b' = h.size
    · omega
    · subst hb; rw [setMu_same] at h1; simp at h1; subst h1
      rw [setMu_other _ _ hb'] at h2
      have := s.lt h2; omega
    · subst hb'; rw [setMu_same] at h2; simp at h2; subst h2
      rw [setMu_other _ _ hb] at h1
      have := s.lt h1; omega
    · rw [setMu_other _ _ hb] at h1; rw [setMu_other _ _ hb'] at h2
      exact s.inj b b' L1 L2 h1 h2 he
  · intro b L' hb
    by_cases hbb : b = h.size
    · subst hbb; rw [setMu_same] at hb; simp at hb; subst hb; rw [hblk]; exact s.fit
    · rw [setMu_other _ _ hbb] at hb; exact s.low b L' hb
  · intro b L' hb hr
    by_cases hbb : b = h.size
    · subst hbb; rw [setMu_same] at hb; simp at hb; subst hb
      have := s.resLt _ hr; omega
    · rw [setMu_other _ _ hbb] at hb; exact s.apart b L' hb hr
  · intro i hr
    have := s.resLt i hr
    simp; omega
  · intro g cs hg
    exact (s.glob g cs hg).ext hext
  · refine ⟨by show h.size ≤ h.size + 1; omega, fun b hb => ?_, fun b h1 h2 => ?_⟩
    · by_cases hbb : b = h.size
      · right; exact ⟨by omega, by show b < h.size + 1; omega⟩
      · left; rwa [setMu_other _ _ hbb] at hb
    · have : b = h.size := by have h2 : b < h.size + 1 := h2; omega
      subst this; rw [setMu_same]; simp

theorem put_get {b : Nat} {x : Box} (hh : h.put b x = some h') (hw : h.boxes.length = h.size) :
    h'.size = h.size ∧ h'.boxes.length = h'.size ∧ h'.get b = some x ∧ ∀ c, c ≠ b → h'.get c = h.get c := by
  obtain ⟨h1, h2, rfl⟩ := H.put_eq_some.1 hh
  refine ⟨rfl, by simp [hw], ?_, fun c hc => ?_⟩
  · rw [H.get_eq]; simp [h1, h2]
  · rw [H.get_eq, H.get_eq]
    by_cases hcs : c < h.size
    · simp only [hcs, if_true]
      rw [List.getElem?_set_ne]
      omega
    · simp [hcs]

/-- A box is changed: its place may be a new one, with a greater count of appends. -/
theorem St.change (s : St cx base hp μ h) {b : Nat} {L L' : Loc} {x' : Box} (hb : μ b = some L) (hput : h.put b x' = some h') (hsz : hp.size ≤ hp'.size) (hold : ∀ i, i < hp.size → i ≠ L.blk → hp'[i]? = hp[i]?)
    (hL : L' = L ∨ (L.ep < L'.ep ∧ (L'.blk = L.blk ∨ hp.size ≤ L'.blk))) (hx : Ext hp μ hp' (setMu μ b L') → BoxOk hp' (setMu μ b L') L' x') :
    St cx base hp' (setMu μ b L') h' ∧ Ext hp μ hp' (setMu μ b L') ∧ Dom μ (setMu μ b L') h.size h'.size := by
  obtain ⟨p1, p2, p3, p4⟩ := put_get hput s.wf
  have hblk : L'.blk = L.blk ∨ hp.size ≤ L'.blk := by
    rcases hL with rfl | hL
    · exact .inl rfl
    · exact hL.2
  have hext : Ext hp μ hp' (setMu μ b L') := by
    refine ⟨hsz, fun i hi hn => ⟨hold i hi fun k => hn (.inl ⟨b, L, hb, k.symm⟩), ?_⟩, fun c Lc hc => ?_, rfl, fun i hi hr => hold i hi fun k => s.apart b L hb (k ▸ hr)⟩
    · rintro (⟨c, Lc, hc, rfl⟩ | hr)
      · by_cases hcb : c = b
        · subst hcb; rw [setMu_same] at hc; simp at hc; subst hc
          rcases hblk with k | k
          · exact hn (.inl ⟨c, L, hb, k.symm⟩)
          · omega
        · rw [setMu_other _ _ hcb] at hc; exact hn (.inl ⟨c, Lc, hc, rfl⟩)
      · exact hn (.inr hr)
    · by_cases hcb : c = b
      · subst hcb
        rw [hb] at hc; simp at hc; subst hc
        refine ⟨L', setMu_same _ _ _, ?_⟩
        rcases hL with k | k
        · exact .inl k
        · exact .inr k.1
      · exact ⟨Lc, by rw [setMu_other _ _ hcb]; exact hc, .inl rfl⟩
  refine ⟨⟨p2, by have := s.fit; omega, ?_, ?_, ?_, ?_, fun i hr => Nat.lt_of_lt_of_le (s.resLt i hr) hsz, ?_⟩, hext, ⟨by omega, fun c hc => ?_, fun c h1 h2 => by omega⟩⟩
  · intro c Lc hc
    by_cases hcb : c = b
    · subst hcb; rw [setMu_same] at hc; simp at hc; subst hc
      exact ⟨x', p3, hx hext⟩
    · rw [setMu_other _ _ hcb] at hc
      obtain ⟨y, h1, h2⟩ := s.box c Lc hc
      refine ⟨y, by rw [p4 c hcb]; exact h1, h2.ext hext (hold _ (s.lt hc) fun k => hcb (s.inj c b Lc L hc hb k))⟩
  · intro c c' L1 L2 h1 h2 he
    by_cases hc : c = b <;> by_cases hc' : c' = b
    · omega
    · subst hc; rw [setMu_same] at h1; simp at h1; subst h1
      rw [setMu_other _ _ hc'] at h2
      rcases hblk with k | k
      · exact absurd (s.inj c' c L2 L h2 hb (by omega)) hc'
      · have := s.lt h2; omega
    · subst hc'; rw [setMu_same] at h2; simp at h2; subst h2
      rw [setMu_other _ _ hc] at h1
      rcases hblk with k | k
      · exact absurd (s.inj c c' L1 L h1 hb (by omega)) hc
      · have := s.lt h1; omega
    · rw [setMu_other _ _ hc] at h1; rw [setMu_other _ _ hc'] at h2
      exact s.inj c c' L1 L2 h1 h2 he
  · intro c Lc hc
    by_cases hcb : c = b
    · subst hcb; rw [setMu_same] at hc; simp at hc; subst hc
      rcases hblk with k | k
      · rw [k]; exact s.low _ _ hb
      · have := s.fit; omega
    · rw [setMu_other _ _ hcb] at hc; exact s.low c Lc hc
  · intro c Lc hc hr
    by_cases hcb : c = b
    · subst hcb; rw [setMu_same] at hc; simp at hc; subst hc
      rcases hblk with k | k
      · exact s.apart c L hb (by rw [← k]; exact hr)
      · have := s.resLt _ hr; omega
    · rw [setMu_other _ _ hcb] at hc; exact s.apart c Lc hc hr
  · intro g cs hg
    exact (s.glob g cs hg).ext hext
  · left
    by_cases hcb : c = b
    · subst hcb; rw [hb]; simp
    · rwa [setMu_other _ _ hcb] at hc
end
end Go.TI
