/- Operators. -/
import Derived.Test.YtemkchpdcgkeiaaGreatDoorTiPure
import Derived.Laws.Strings
import Derived.Lib.Strings
namespace Go.TI
set_option linter.unusedSimpArgs false
set_option linter.unusedVariables false
section
variable {P : Program} {cx : Ctx} {base : Nat} {w : World} {μ : Mu} {h : H} {mask : Nat} {e : Env} {a : Act} {o : Oper} {hp : Array Obj}

theorem int2_eq_some {x y v : T} {f : IntKind → Int → Int → Option T} (h : int2 x y f = some v) : ∃ k m n, x = .int k m ∧ y = .int k n ∧ f k m n = some v := by
  unfold int2 at h
  split at h
  · rename_i k m
    split at h
    · rename_i k' n
      obtain ⟨h1, h2⟩ := chk_eq_some.1 h
      rw [kEq_eq] at h1; subst h1
      exact ⟨k, m, n, rfl, rfl, h2⟩
    · simp at h
  · simp at h

theorem shift2_eq_some {x y v : T} {f : IntKind → Int → Nat → Option T} (h : shift2 x y f = some v) : ∃ k m k' n, x = .int k m ∧ y = .int k' (.ofNat n) ∧ f k m (min n k.bits) = some v := by
  unfold shift2 at h
  split at h
  · rename_i k m
    split at h
    · rename_i k' n
      cases n with
      | ofNat n => exact ⟨k, m, k', n, rfl, rfl, h⟩
      | negSucc n => simp at h
    · simp at h
  · simp at h

theorem cmp2_eq_some {x y v : T} {f : Int → Int → Bool} {g : List Nat → List Nat → Bool} (h : cmp2 x y f g = some v) :
    (∃ k m n, x = .int k m ∧ y = .int k n ∧ v = .bool (f m n)) ∨ (∃ s t, x = .str s ∧ y = .str t ∧ v = .bool (g s t)) := by
  unfold cmp2 at h
  split at h
  · rename_i k m
    split at h
    · rename_i k' n
      obtain ⟨h1, h2⟩ := chk_eq_some.1 h
      rw [kEq_eq] at h1; subst h1
      rw [rBool_eq] at h2; simp at h2
      exact .inl ⟨k, m, n, rfl, rfl, h2.symm⟩
    · simp at h
  · rename_i s
    split at h
    · rename_i t
      rw [rBool_eq] at h; simp at h
      exact .inr ⟨s, t, rfl, rfl, h.symm⟩
    · simp at h
  · simp at h

/-! strings -/

theorem toList_bytesOf (s : List Nat) : (bytesOf s).toList = s.map UInt8.ofNat := by
  rw [ByteArray.toList_eq]; rfl

theorem size_bytesOf (s : List Nat) : (bytesOf s).size = s.length := by simp [bytesOf, ByteArray.size]

theorem ofNat_inj {x y : Nat} (hx : x < 256) (hy : y < 256) (h : UInt8.ofNat x = UInt8.ofNat y) : x = y := by
  have := congrArg UInt8.toNat h
  rwa [toNat_ofNat_lt hx, toNat_ofNat_lt hy] at this

theorem map_ofNat_inj {s t : List Nat} (hs : ∀ x ∈ s, x < 256) (ht : ∀ x ∈ t, x < 256) (h : s.map UInt8.ofNat = t.map UInt8.ofNat) : s = t := by
  induction s generalizing t with
  | nil => cases t with
    | nil => rfl
    | cons y t => simp at h
  | cons x s ih => cases t with
    | nil => simp at h
    | cons y t =>
      simp only [List.map_cons, List.cons.injEq] at h
      rw [ofNat_inj (hs x (by simp)) (ht y (by simp)) h.1, ih (fun z hz => hs z (by simp [hz])) (fun z hz => ht z (by simp [hz])) h.2]

theorem eq_bytes {s t : List Nat} (hs : ∀ x ∈ s, x < 256) (ht : ∀ x ∈ t, x < 256) : ((bytesOf s).toList == (bytesOf t).toList) = eqL s t := by
  rw [eqL_eq, toList_bytesOf, toList_bytesOf, Bool.eq_iff_iff, beq_iff_eq, beq_iff_eq]
  exact ⟨map_ofNat_inj hs ht, fun h => by rw [h]⟩

theorem ltL_cons (x : Nat) (s : List Nat) (y : Nat) (t : List Nat) : ltL (x :: s) (y :: t) = (decide (x < y) || (x == y && ltL s t)) := by
  show @Bool.rec (fun _ => Bool) (@Bool.rec (fun _ => Bool) false (ltL s t) (Nat.beq x y)) true (Nat.blt x y) = _
  have h1 : Nat.blt x y = decide (x < y) := by rw [Bool.eq_iff_iff, Nat.blt_eq]; simp
  have h2 : Nat.beq x y = (x == y) := by rw [Bool.eq_iff_iff, Nat.beq_eq]; simp
  rw [h1, h2]
  cases decide (x < y) <;> cases (x == y) <;> rfl

theorem lt_bytes {s t : List Nat} (hs : ∀ x ∈ s, x < 256) (ht : ∀ x ∈ t, x < 256) : Op.bytesLess (bytesOf s).toList (bytesOf t).toList = ltL s t := by
  rw [toList_bytesOf, toList_bytesOf]
  induction s generalizing t with
  | nil => cases t <;> rfl
  | cons x s ih => cases t with
    | nil => rfl
    | cons y t =>
      have hx := hs x (by simp)
      have hy := ht y (by simp)
      rw [ltL_cons]
      simp only [List.map_cons, Op.bytesLess]
      rw [ih (fun z hz => hs z (by simp [hz])) (fun z hz => ht z (by simp [hz]))]
      have h1 : (decide (UInt8.ofNat x < UInt8.ofNat y)) = decide (x < y) := by
        rw [Bool.eq_iff_iff, decide_eq_true_iff, decide_eq_true_iff, UInt8.lt_iff_toNat_lt, toNat_ofNat_lt hx, toNat_ofNat_lt hy]
      have h2 : (UInt8.ofNat x == UInt8.ofNat y) = (x == y) := by
        rw [Bool.eq_iff_iff, beq_iff_eq, beq_iff_eq]
        exact ⟨ofNat_inj hx hy, fun h => by rw [h]⟩
      rw [h1, h2]

theorem ltL_total (s t : List Nat) : (ltL s t || eqL s t) = !ltL t s := by
  induction s generalizing t with
  | nil => cases t <;> rfl
  | cons x s ih => cases t with
    | nil => rfl
    | cons y t =>
      rw [ltL_cons, ltL_cons, eqL_eq, List.cons_beq_cons, ← eqL_eq]
      have := ih t
      rcases Nat.lt_trichotomy x y with hlt | heq | hgt
      · have h1 : ¬ y < x := by omega
        have h2 : (y == x) = false := by simp; omega
        simp [hlt, h1, h2]
      · subst heq
        simpa using this
      · have h1 : ¬ x < y := by omega
        have h2 : (x == y) = false := by simp; omega
        simp [hgt, h1, h2]

theorem bytesOf_append (s t : List Nat) : bytesOf (s ++ t) = bytesOf s ++ bytesOf t := by
  apply ByteArray.ext
  simp [bytesOf, ByteArray.data_append]

theorem binop_sound {op : BinOp} {x y v : T} {c d : Value} (t : TypeId) (hne : op ≠ .eql) (hnn : op ≠ .neq) (hx : RelV hp μ x c) (hy : RelV hp μ y d) (hh : binop op x y = some v) :
    ∃ z, (binOp op t c d).run P w = .ok z w ∧ RelV hp μ v z := by
  have ints : ∀ {f : IntKind → Int → Int → Option T}, int2 x y f = some v →
      (∀ k m n, f k m n = some v → ∃ z, (binOp op t (.int k m) (.int k n)).run P w = .ok z w ∧ RelV hp μ v z) → ∃ z, (binOp op t c d).run P w = .ok z w ∧ RelV hp μ v z := by
    intro f hf hk
    obtain ⟨k, m, n, rfl, rfl, h2⟩ := int2_eq_some hf
    rw [hx.inv_int, hy.inv_int]
    exact hk k m n h2
  have cmps : ∀ {f : Int → Int → Bool} {g : List Nat → List Nat → Bool}, cmp2 x y f g = some v →
      (∀ k m n, (binOp op t (.int k m) (.int k n)).run P w = .ok (.bool (f m n)) w) →
      (∀ s u, (∀ x ∈ s, x < 256) → (∀ x ∈ u, x < 256) → (binOp op t (.string (bytesOf s)) (.string (bytesOf u))).run P w = .ok (.bool (g s u)) w) → ∃ z, (binOp op t c d).run P w = .ok z w ∧ RelV hp μ v z := by
    intro f g hf h1 h2
    rcases cmp2_eq_some hf with ⟨k, m, n, rfl, rfl, rfl⟩ | ⟨s, u, rfl, rfl, rfl⟩
    · rw [hx.inv_int, hy.inv_int]
      exact ⟨_, h1 k m n, .bool _⟩
    · obtain ⟨e1, b1⟩ := hx.inv_str
      obtain ⟨e2, b2⟩ := hy.inv_str
      rw [e1, e2]
      exact ⟨_, h2 s u b1 b2, .bool _⟩
  cases op with
  | eql => exact absurd rfl hne
  | neq => exact absurd rfl hnn
  | add =>
    have hh : addT x y = some v := hh
    by_cases hstr : ∃ s, x = .str s
    · obtain ⟨s, rfl⟩ := hstr
      by_cases hstr' : ∃ u, y = .str u
      · obtain ⟨u, rfl⟩ := hstr'
        have hh : (bnd (appN s u) fun q => chk (Nat.ble (lenN q) 4294967296) (some (T.str q))) = some v := hh
        obtain ⟨q, h1, hh⟩ := bnd_eq_some.1 hh
        obtain ⟨hl, hh⟩ := chk_eq_some.1 hh
        simp at h1 hh; subst h1; subst hh
        have hl := Nat.le_of_ble_eq_true hl
        rw [lenN_eq, List.length_append] at hl
        obtain ⟨e1, b1⟩ := hx.inv_str
        obtain ⟨e2, b2⟩ := hy.inv_str
        rw [e1, e2]
        refine ⟨.string (bytesOf (s ++ u)), ?_, .str _ (by intro z hz; rcases List.mem_append.1 hz with k | k; exact b1 z k; exact b2 z k)⟩
        rw [bytesOf_append]
        have hi : ¬ (((bytesOf s).size + (bytesOf u).size : Nat) : Int) > IntKind.i64.max := by
          rw [size_bytesOf, size_bytesOf]
          have : IntKind.i64.max = 9223372036854775807 := by decide
          rw [this]; omega
        simp only [binOp, Op.stringOp, hi, if_false, Sem.run_pure]
      · exfalso
        unfold addT at hh
        cases y <;> first | (simp at hh; done) | exact hstr' ⟨_, rfl⟩
    · have hh : int2 x y (fun k a b => rWrap k (a + b)) = some v := by
        unfold addT at hh
        cases x <;> first | exact hh | exact absurd ⟨_, rfl⟩ hstr
      refine ints hh fun k m n h => ?_
      rw [rWrap_eq] at h; simp at h; subst h
      exact ⟨_, by simp [binOp, Op.intArith], .int _ _⟩
  | sub =>
    refine ints hh fun k m n h => ?_
    rw [rWrap_eq] at h; simp at h; subst h
    exact ⟨_, by simp [binOp, Op.intArith], .int _ _⟩
  | mul =>
    refine ints hh fun k m n h => ?_
    rw [rWrap_eq] at h; simp at h; subst h
    exact ⟨_, by simp [binOp, Op.intArith], .int _ _⟩
  | quo =>
    refine ints hh fun k m n h => ?_
    cases hz : eqI n 0 with
    | true => rw [hz] at h; simp at h
    | false =>
      rw [hz] at h
      have hz' : ¬ n = 0 := by rw [eqI_eq] at hz; simpa using hz
      simp only [rWrap_eq] at h; simp at h; subst h
      exact ⟨_, by simp [binOp, Op.intDiv, hz'], .int _ _⟩
  | rem =>
    refine ints hh fun k m n h => ?_
    cases hz : eqI n 0 with
    | true => rw [hz] at h; simp at h
    | false =>
      rw [hz] at h
      have hz' : ¬ n = 0 := by rw [eqI_eq] at hz; simpa using hz
      simp only [rInt_eq] at h; simp at h; subst h
      exact ⟨_, by simp [binOp, Op.intDiv, hz'], .int _ _⟩
  | and =>
    refine ints hh fun k m n h => ?_
    rw [rInt_eq] at h; simp only [Option.some.injEq] at h; subst h
    exact ⟨_, by simp [binOp, Op.intBits], .int _ _⟩
  | or =>
    refine ints hh fun k m n h => ?_
    rw [rInt_eq] at h; simp only [Option.some.injEq] at h; subst h
    exact ⟨_, by simp [binOp, Op.intBits], .int _ _⟩
  | xor =>
    refine ints hh fun k m n h => ?_
    rw [rInt_eq] at h; simp only [Option.some.injEq] at h; subst h
    exact ⟨_, by simp [binOp, Op.intBits], .int _ _⟩
  | shl =>
    have hh : shift2 x y (fun k a n => rInt k (k.wrap (a * 2 ^ n))) = some v := hh
    obtain ⟨k, m, k', n, rfl, rfl, h2⟩ := shift2_eq_some hh
    rw [hx.inv_int, hy.inv_int]
    rw [rInt_eq] at h2; simp only [Option.some.injEq] at h2; subst h2
    have hneg : ¬ ((n : Nat) : Int) < 0 := by omega
    exact ⟨_, by simp [binOp, Op.shift, hneg], .int _ _⟩
  | shr =>
    have hh : shift2 x y (fun k a n => rInt k (a.fdiv (2 ^ n))) = some v := hh
    obtain ⟨k, m, k', n, rfl, rfl, h2⟩ := shift2_eq_some hh
    rw [hx.inv_int, hy.inv_int]
    rw [rInt_eq] at h2; simp only [Option.some.injEq] at h2; subst h2
    have hneg : ¬ ((n : Nat) : Int) < 0 := by omega
    exact ⟨_, by simp [binOp, Op.shift, hneg], .int _ _⟩
  | lss => exact cmps hh (fun k m n => by simp [binOp, Op.intCmp, ltI_eq]) (fun s u hs hu => by simp only [binOp, Op.stringOp, lt_bytes hs hu, Sem.run_pure])
  | leq => exact cmps hh (fun k m n => by simp only [binOp, Op.intCmp, ltI_eq, ne_eq, not_true, if_false, Sem.run_pure]; congr 2; rw [Bool.eq_iff_iff]; simp) (fun s u hs hu => by simp only [binOp, Op.stringOp, lt_bytes hs hu, eq_bytes hs hu, Sem.run_pure, ltL_total])
  | gtr => exact cmps hh (fun k m n => by simp [binOp, Op.intCmp, ltI_eq]) (fun s u hs hu => by simp only [binOp, Op.stringOp, lt_bytes hs hu, eq_bytes hs hu, Sem.run_pure, ltL_total, Bool.not_not])
  | geq => exact cmps hh (fun k m n => by simp only [binOp, Op.intCmp, ltI_eq, ne_eq, not_true, if_false, Sem.run_pure]; congr 2; rw [Bool.eq_iff_iff]; simp) (fun s u hs hu => by simp only [binOp, Op.stringOp, lt_bytes hs hu, Sem.run_pure])
  | _ => simp [binop] at hh

theorem eqGuard_other {op : BinOp} {t : TypeId} {x y : Operand} {c d : Value} (hne : op ≠ .eql) (hnn : op ≠ .neq) : (eqGuard op t x y c d).run P w = .ok () w := by
  cases op <;> first | (exact absurd rfl hne) | (exact absurd rfl hnn) | (simp [eqGuard])

theorem hBin_sound {op : BinOp} {t u : TypeId} {x y : Operand} (hne : op ≠ .eql) (hnn : op ≠ .neq) (s : St cx base w.heap μ h) (r : RelE w.heap μ mask e a.tmps) (ho : o.op = .binOp op t x y u) {v : T} {h' : H}
    (hh : hBin op x y cx mask e h = some (.val v h')) : Done cx base w μ h.size ((execOp a.eval o).run P w) v h' := by
  obtain ⟨p, hp, hh⟩ := bnd_eq_some.1 hh
  obtain ⟨q, hq, hh⟩ := bnd_eq_some.1 hh
  obtain ⟨hv, rfl⟩ := val_eq_some.1 hh
  obtain ⟨z, hz, hr⟩ := binop_sound (P := P) (w := w) t hne hnn (opnd_sound s r hp) (opnd_sound s r hq) hv
  refine Done.pure s ?_ hr
  simp only [execOp, ho, Sem.run_bind, eqGuard_other hne hnn, Result.andThen_ok, hz, Sem.run_pure]

theorem hUn_sound {op : UnOp} {t : TypeId} {x : Operand} (s : St cx base w.heap μ h) (r : RelE w.heap μ mask e a.tmps) (ho : o.op = .unOp op t x) {v : T} {h' : H}
    (hh : hUn op x cx mask e h = some (.val v h')) : Done cx base w μ h.size ((execOp a.eval o).run P w) v h' := by
  obtain ⟨p, hp, hh⟩ := bnd_eq_some.1 hh
  obtain ⟨hv, rfl⟩ := val_eq_some.1 hh
  have hc := opnd_sound s r hp
  cases op with
  | neg =>
    cases p <;> simp [unop] at hv
    subst hv
    exact Done.pure s (by simp [execOp, ho, hc.inv_int, Op.unary, Op.intArith]) (.int _ _)
  | not =>
    cases p <;> simp [unop] at hv
    rename_i b
    have hb := hc.inv_bool
    cases b <;> simp at hv <;> subst hv <;> exact Done.pure s (by simp [execOp, ho, hb, Op.unary]) (.bool _)
  | _ => simp [unop] at hv
end
end Go.TI
