/- Plain facts on the interpreter's small words. -/
import Derived.Test.YtemkchpdcgkeiaaGreatDoorTiDefs
import Derived.IntWalk
namespace Go.TI
set_option linter.unusedSimpArgs false
set_option linter.unusedVariables false

@[simp] theorem bnd_some {α β : Type} (a : α) (f : α → Option β) : bnd (some a) f = f a := rfl
@[simp] theorem bnd_none {α β : Type} (f : α → Option β) : bnd (none : Option α) f = none := rfl
theorem bnd_eq_some {α β : Type} {x : Option α} {f : α → Option β} {y : β} : bnd x f = some y ↔ ∃ a, x = some a ∧ f a = some y := by
  cases x <;> simp
@[simp] theorem chk_true {α : Type} (x : Option α) : chk true x = x := rfl
@[simp] theorem chk_false {α : Type} (x : Option α) : chk false x = none := rfl
theorem chk_eq_some {α : Type} {b : Bool} {x : Option α} {y : α} : chk b x = some y ↔ b = true ∧ x = some y := by
  cases b <;> simp
@[simp] theorem two_mk {α β γ : Type} (a : α) (b : β) (f : α → β → γ) : two (a, b) f = f a b := rfl
@[simp] theorem three_mk {γ : Type} (x : Ex) (e : Env) (h : H) (f : Ex → Env → H → γ) : three (x, e, h) f = f x e h := rfl

section lists
variable {α β : Type}
@[simp] theorem nthD_eq (l : List α) (n : Nat) : nthD l n = l[n]? := by
  induction l generalizing n with
  | nil => simp [nthD]
  | cons x r ih => cases n with
    | zero => rfl
    | succ n => exact (ih n).trans (by simp)

theorem setNth_eq (l : List α) (n : Nat) (y : α) : setNth l n y = if n < l.length then some (l.set n y) else none := by
  induction l generalizing n with
  | nil => rfl
  | cons x r ih => cases n with
    | zero => rfl
    | succ n =>
      show (bnd (setNth r n y) fun t => some (x :: t)) = _
      rw [ih]
      by_cases h : n < r.length <;> simp [h]

theorem takeN_eq (n : Nat) (l : List α) : takeN n l = if n ≤ l.length then some (l.take n) else none := by
  induction n generalizing l with
  | zero => rfl
  | succ n ih => cases l with
    | nil => rfl
    | cons x r =>
      show (bnd (takeN n r) fun t => some (x :: t)) = _
      rw [ih]
      by_cases h : n ≤ r.length <;> simp [h]

theorem dropN_eq (n : Nat) (l : List α) : dropN n l = if n ≤ l.length then some (l.drop n) else none := by
  induction n generalizing l with
  | zero => rfl
  | succ n ih => cases l with
    | nil => rfl
    | cons x r =>
      show dropN n r = _
      rw [ih]
      by_cases h : n ≤ r.length <;> simp [h]

@[simp] theorem lenN_eq (l : List α) : lenN l = l.length := by
  induction l with
  | nil => rfl
  | cons x r ih => show Nat.succ (lenN r) = _; rw [ih]; rfl

@[simp] theorem appN_eq (xs ys : List α) : appN xs ys = some (xs ++ ys) := by
  induction xs with
  | nil => rfl
  | cons x r ih => show (bnd (appN r ys) fun t => some (x :: t)) = _; rw [ih]; rfl

theorem mapOpt_cons (f : α → Option β) (x : α) (l : List α) : mapOpt f (x :: l) = bnd (f x) fun y => bnd (mapOpt f l) fun t => some (y :: t) := rfl
@[simp] theorem mapOpt_nil (f : α → Option β) : mapOpt f [] = some [] := rfl

theorem mapOpt_eq_some {f : α → Option β} {l : List α} {r : List β} : mapOpt f l = some r ↔ l.length = r.length ∧ ∀ (k : Nat) x, l[k]? = some x → ∃ y, r[k]? = some y ∧ f x = some y := by
  induction l generalizing r with
  | nil =>
    constructor
    · intro h; simp at h; subst h; simp
    · rintro ⟨h, _⟩; simp at h; simp [List.eq_nil_of_length_eq_zero h.symm]
  | cons x l ih =>
    rw [mapOpt_cons]
    constructor
    · intro h
      obtain ⟨y, hy, h⟩ := bnd_eq_some.1 h
      obtain ⟨t, ht, h⟩ := bnd_eq_some.1 h
      simp at h; subst h
      obtain ⟨hl, hk⟩ := ih.1 ht
      refine ⟨by simp [hl], fun k z hz => ?_⟩
      cases k with
      | zero => simp at hz; subst hz; exact ⟨y, by simp, hy⟩
      | succ k => simp at hz; obtain ⟨w, hw, hf⟩ := hk k z hz; exact ⟨w, by simpa using hw, hf⟩
    · rintro ⟨hl, hk⟩
      cases r with
      | nil => simp at hl
      | cons y r =>
        obtain ⟨y', hy', hf⟩ := hk 0 x (by simp)
        simp at hy'; subst hy'
        have : mapOpt f l = some r := ih.2 ⟨by simpa using hl, fun k z hz => by simpa using hk (k + 1) z (by simpa using hz)⟩
        rw [hf, this]; rfl

@[simp] theorem replicateN_eq (x : α) (n : Nat) : replicateN x n = List.replicate n x := by
  induction n with
  | zero => rfl
  | succ n ih => show x :: replicateN x n = _; rw [ih]; rfl

@[simp] theorem allB_eq (f : α → Bool) (l : List α) : allB f l = l.all f := by
  induction l with
  | nil => rfl
  | cons x l ih =>
    show @Bool.rec (fun _ => Bool) false (allB f l) (f x) = _
    rw [ih]; cases h : f x <;> simp [h]
end lists

@[simp] theorem normNat_eq (n : Nat) : normNat n = some n := by cases n <;> rfl
@[simp] theorem normInt_eq (n : Int) : normInt n = some n := by
  cases n with
  | ofNat m => cases m <;> rfl
  | negSucc m => cases m <;> rfl
@[simp] theorem rInt_eq (k : IntKind) (n : Int) : rInt k n = some (.int k n) := by simp [rInt]
@[simp] theorem rBool_eq (b : Bool) : rBool b = some (.bool b) := by cases b <;> rfl
@[simp] theorem kEq_eq (a b : IntKind) : (kEq a b = true) ↔ a = b := by cases a <;> cases b <;> decide

theorem ltI_eq (a b : Int) : ltI a b = decide (a < b) := by
  cases a with
  | ofNat m => cases b with
    | ofNat n =>
      show Nat.blt m n = _
      rw [Bool.eq_iff_iff, Nat.blt_eq]; simp
    | negSucc n => show false = _; symm; simp; omega
  | negSucc m => cases b with
    | ofNat n => show true = _; symm; simp; omega
    | negSucc n =>
      show Nat.blt n m = _
      rw [Bool.eq_iff_iff, Nat.blt_eq]; simp; omega

theorem eqI_eq (a b : Int) : eqI a b = (a == b) := by
  cases a with
  | ofNat m => cases b with
    | ofNat n =>
      show Nat.beq m n = _
      rw [Bool.eq_iff_iff, Nat.beq_eq]; simp; omega
    | negSucc n => rfl
  | negSucc m => cases b with
    | ofNat n => rfl
    | negSucc n =>
      show Nat.beq m n = _
      rw [Bool.eq_iff_iff, Nat.beq_eq]; simp

theorem wrapF_eq (k : IntKind) (n : Int) : wrapF k n = k.wrap n := by
  cases k <;> try rfl
  cases n with
  | ofNat m =>
    show @Bool.rec (fun _ => Int) (IntKind.i64.wrap (.ofNat m)) (Int.ofNat m) (Nat.ble m 9223372036854775807) = _
    cases h : Nat.ble m 9223372036854775807
    · rfl
    · have := Nat.le_of_ble_eq_true h
      show Int.ofNat m = _
      exact (IntWalk.i64_in _ (by simp; omega)).symm
  | negSucc m =>
    show @Bool.rec (fun _ => Int) (IntKind.i64.wrap (.negSucc m)) (Int.negSucc m) (Nat.ble m 9223372036854775807) = _
    cases h : Nat.ble m 9223372036854775807
    · rfl
    · have := Nat.le_of_ble_eq_true h
      show Int.negSucc m = _
      exact (IntWalk.i64_in _ (by omega)).symm

@[simp] theorem rWrap_eq (k : IntKind) (n : Int) : rWrap k n = some (.int k (k.wrap n)) := by simp [rWrap, wrapF_eq]

theorem eqL_eq (a b : List Nat) : eqL a b = (a == b) := by
  induction a generalizing b with
  | nil => cases b <;> rfl
  | cons x a ih => cases b with
    | nil => rfl
    | cons y b =>
      show @Bool.rec (fun _ => Bool) false (eqL a b) (Nat.beq x y) = _
      rw [ih]
      rw [List.cons_beq_cons]
      cases h : Nat.beq x y
      · have : (x == y) = false := by rw [← Bool.not_eq_true, beq_iff_eq, ← Nat.beq_eq]; simp [h]
        simp [this]
      · have : (x == y) = true := by rw [beq_iff_eq, ← Nat.beq_eq]; exact h
        simp [this]

/-! ### the heap's words -/

theorem H.get_eq (h : H) (b : Nat) : h.get b = if b < h.size then h.boxes[h.size - 1 - b]? else none := by
  obtain ⟨size, low, boxes⟩ := h
  show chk (Nat.blt b size) (nthD boxes _) = _
  by_cases hb : b < size
  · have : Nat.blt b size = true := by rw [Nat.blt_eq]; exact hb
    simp [this, hb]
  · have : Nat.blt b size = false := by rw [← Bool.not_eq_true, Nat.blt_eq]; exact hb
    simp [this, hb]

theorem H.new_eq (v : Nat → T) (h : H) (x : Box) : h.new v x = some (v h.size, ⟨h.size + 1, h.low, x :: h.boxes⟩) := by
  obtain ⟨size, low, boxes⟩ := h
  show (bnd (normNat (Nat.succ size)) fun n => some (v size, (⟨n, low, x :: boxes⟩ : H))) = _
  simp

theorem H.put_eq_some {h h' : H} {b : Nat} {x : Box} : h.put b x = some h' ↔
    b < h.size ∧ h.size - 1 - b < h.boxes.length ∧ h' = ⟨h.size, if b < h.low then b else h.low, h.boxes.set (h.size - 1 - b) x⟩ := by
  obtain ⟨size, low, boxes⟩ := h
  show chk (Nat.blt b size) (bnd (setNth boxes (size - 1 - b) x) fun bs => @Bool.rec (fun _ => Option H) (some (⟨size, low, bs⟩ : H)) (some ⟨size, b, bs⟩) (Nat.blt b low)) = _ ↔ _
  rw [chk_eq_some, Nat.blt_eq, setNth_eq]
  constructor
  · rintro ⟨hb, hs⟩
    obtain ⟨bs, h1, h2⟩ := bnd_eq_some.1 hs
    split at h1
    · rename_i hl
      simp at h1; subst h1
      refine ⟨hb, hl, ?_⟩
      by_cases hlow : b < low
      · have : Nat.blt b low = true := by rw [Nat.blt_eq]; exact hlow
        rw [this] at h2; simp at h2; simp [hlow, ← h2]
      · have : Nat.blt b low = false := by rw [← Bool.not_eq_true, Nat.blt_eq]; exact hlow
        rw [this] at h2; simp at h2; simp [hlow, ← h2]
    · simp at h1
  · rintro ⟨hb, hl, rfl⟩
    refine ⟨hb, ?_⟩
    simp only [] at hl
    rw [if_pos hl]
    by_cases hlow : b < low
    · have : Nat.blt b low = true := by rw [Nat.blt_eq]; exact hlow
      simp [this, hlow]
    · have : Nat.blt b low = false := by rw [← Bool.not_eq_true, Nat.blt_eq]; exact hlow
      simp [this, hlow]

end Go.TI
