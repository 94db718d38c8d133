/- Operations that leave the world as it is. -/
import Derived.Test.YtemkchpdcgkeiaaGreatDoorTiTypes
namespace Go.TI
set_option linter.unusedSimpArgs false
set_option linter.unusedVariables false
section inv
variable {hp : Array Obj} {μ : Mu} {c : Value}
theorem RelV.inv_undef (h : RelV hp μ .undef c) : c = .tuple #[] := by cases h; rfl
theorem RelV.inv_bool {b : Bool} (h : RelV hp μ (.bool b) c) : c = .bool b := by cases h; rfl
theorem RelV.inv_int {k : IntKind} {n : Int} (h : RelV hp μ (.int k n) c) : c = .int k n := by cases h; rfl
theorem RelV.inv_str {s : List Nat} (h : RelV hp μ (.str s) c) : c = .string (bytesOf s) ∧ ∀ x ∈ s, x < 256 := by cases h; exact ⟨rfl, by assumption⟩
theorem RelV.inv_nilp (h : RelV hp μ .nilp c) : c = .pointer none := by cases h; rfl
theorem RelV.inv_ptr {b ep i j : Nat} (h : RelV hp μ (.ptr b ep i j) c) : ∃ L a, c = .pointer (some a) ∧ μ b = some L ∧ ep ≤ L.ep ∧ (ep = L.ep → a = ⟨L.blk, i * L.sz + j, none⟩) := by
  cases h with | ptr _ _ _ _ L a hb he ha => exact ⟨L, a, rfl, hb, he, ha⟩
theorem RelV.inv_tptr {cells : List T} (h : RelV hp μ (.tptr cells) c) : ∃ blk off arr t fz, c = .pointer (some ⟨blk, off, none⟩) ∧ ¬ InMu μ blk ∧ hp[blk]? = some (.cells arr t fz) ∧
    off + cells.length ≤ arr.size ∧ (∀ v ∈ cells, Shut v) ∧ ∀ (k : Nat) v, cells[k]? = some v → RelV hp μ v (arr.getD (off + k) Go.undef) := by
  cases h with | tptr _ blk off arr t fz hn hh hs hc hr => exact ⟨blk, off, arr, t, fz, rfl, hn, hh, hs, hc, hr⟩
theorem RelV.inv_arr {b ep o l : Nat} {full : Bool} (h : RelV hp μ (.arr b ep o l full) c) : ∃ L a cp, c = .slice a l cp ∧ μ b = some L ∧ ep ≤ L.ep ∧ l ≤ cp ∧
    (ep = L.ep → (full = true → cp = l) ∧ (full = false → o + cp = L.cap) ∧ (cp ≠ 0 → a = some ⟨L.blk, o * L.sz, none⟩)) := by
  cases h with | arr _ _ _ _ _ L a cp hb he hl h => exact ⟨L, a, cp, rfl, hb, he, hl, h⟩
theorem RelV.inv_ewild (h : RelV hp μ .ewild c) : ∃ a cap, c = .slice a 0 cap := by cases h; exact ⟨_, _, rfl⟩
theorem RelV.inv_tree0 {full : Bool} (h : RelV hp μ (.tree [] full) c) : ∃ a, c = .slice a 0 0 := by cases h; exact ⟨_, rfl⟩
theorem RelV.inv_tree {x : T} {es : List T} {full : Bool} (h : RelV hp μ (.tree (x :: es) full) c) : ∃ blk off cap sz arr t fz, c = .slice (some ⟨blk, off, none⟩) (es.length + 1) cap ∧ ¬ InMu μ blk ∧
    hp[blk]? = some (.cells arr t fz) ∧ es.length + 1 ≤ cap ∧ (full = true → cap = es.length + 1) ∧ (∀ v ∈ x :: es, v.cells.length = sz) ∧ off + (flat (x :: es)).length ≤ arr.size ∧
    (∀ v ∈ flat (x :: es), Shut v) ∧ ∀ (k : Nat) v, (flat (x :: es))[k]? = some v → RelV hp μ v (arr.getD (off + k) Go.undef) := by
  cases h with | tree _ _ _ blk off cap sz arr t fz hn hh hl hf hu hs hc hr => exact ⟨blk, off, cap, sz, arr, t, fz, rfl, hn, hh, hl, hf, hu, hs, hc, hr⟩
theorem RelV.inv_func {f : FuncId} {caps : List T} (h : RelV hp μ (.func f caps) c) : ∃ cs, c = .func (.func f) #[] cs ∧ RelL hp μ caps cs.toList := by
  cases h with | func _ _ cs hs hr => exact ⟨cs, rfl, by simpa using hs.symm, fun k v hv => by simpa [Array.getD_eq_getD_getElem?, List.getD] using hr k v hv⟩
theorem RelV.inv_nilf (h : RelV hp μ .nilf c) : c = .nilFunc := by cases h; rfl
theorem RelV.inv_nili (h : RelV hp μ .nili c) : c = .nilIface := by cases h; rfl
theorem RelV.inv_iface {t : TypeId} {v : T} (h : RelV hp μ (.iface t v) c) : ∃ d, c = .iface t d := by cases h; exact ⟨_, rfl⟩
theorem RelV.inv_iter {b : Nat} (h : RelV hp μ (.iter b) c) : ∃ L a, c = .pointer (some a) ∧ μ b = some L ∧ (L.ep = 0 → a = ⟨L.blk, 0, none⟩) := by
  cases h with | iter _ L a hb h => exact ⟨L, a, rfl, hb, h⟩
theorem RelV.inv_map {b : Nat} (h : RelV hp μ (.map b) c) : ∃ L i, c = .map (some i) ∧ μ b = some L ∧ (L.ep = 0 → i = L.blk) := by
  cases h with | map _ L i hb h => exact ⟨L, i, rfl, hb, h⟩
theorem RelV.inv_nilm (h : RelV hp μ .nilm c) : c = .map none := by cases h; rfl
theorem RelV.inv_agg {cells : List T} (h : RelV hp μ (.agg cells) c) : ∃ cs, c = .agg cs ∧ RelL hp μ cells cs.toList ∧ ∀ v ∈ cells, v.scalar = true := by
  cases h with | agg _ cs hs hc hr => exact ⟨cs, rfl, ⟨by simpa using hs.symm, fun k v hv => by simpa [Array.getD_eq_getD_getElem?, List.getD] using hr k v hv⟩, hc⟩
theorem RelV.inv_tuple {vs : List T} (h : RelV hp μ (.tuple vs) c) : ∃ cs, c = .tuple cs ∧ RelL hp μ vs cs.toList := by
  cases h with | tuple _ cs hs hr => exact ⟨cs, rfl, by simpa using hs.symm, fun k v hv => by simpa [Array.getD_eq_getD_getElem?, List.getD] using hr k v hv⟩
end inv

section
variable {P : Program} {cx : Ctx} {base : Nat} {w : World} {μ : Mu} {h : H} {mask : Nat} {e : Env} {a : Act} {o : Oper}

/-- Which boxes are new. -/
def Dom (μ μ' : Mu) (n n' : Nat) : Prop := n ≤ n' ∧ (∀ b, μ' b ≠ none → μ b ≠ none ∨ (n ≤ b ∧ b < n')) ∧ ∀ b, n ≤ b → b < n' → μ' b ≠ none

theorem Dom.refl (μ : Mu) (n : Nat) : Dom μ μ n n := ⟨Nat.le_refl _, fun _ h => .inl h, fun b h1 h2 => absurd h2 (by omega)⟩

theorem Dom.trans {hp hp1 hp2 : Array Obj} {μ μ1 μ2 : Mu} {n n1 n2 : Nat} (h : Dom μ μ1 n n1) (k : Dom μ1 μ2 n1 n2) (x : Ext hp1 μ1 hp2 μ2) : Dom μ μ2 n n2 := by
  have h1 := h.1
  have k1 := k.1
  refine ⟨Nat.le_trans h.1 k.1, fun b hb => ?_, fun b hb hb' => ?_⟩
  · rcases k.2.1 b hb with x | x
    · rcases h.2.1 b x with y | y
      · exact .inl y
      · exact .inr ⟨y.1, by omega⟩
    · exact .inr ⟨by omega, x.2⟩
  · by_cases hn : b < n1
    · obtain ⟨L, hL⟩ := Option.ne_none_iff_exists'.1 (h.2.2 b hb hn)
      obtain ⟨L', hL', _⟩ := x.mu b L hL
      rw [hL']; simp
    · exact k.2.2 b (by omega) hb'

/-- What an operation comes to in the model: a value that the interpreter's stands for, in a world for which its heap stands. -/
def Done (cx : Ctx) (base : Nat) (w : World) (μ : Mu) (n : Nat) (r : Result Next) (v : T) (h' : H) : Prop :=
  ∃ c w' μ', (r = .ok (.value c) w' ∨ (r = .ok .skip w' ∧ c = Go.undef)) ∧ RelV w'.heap μ' v c ∧ St cx base w'.heap μ' h' ∧ ExtW w μ w' μ' ∧ Dom μ μ' n h'.size

theorem Done.pure {r : Result Next} {v : T} {c : Value} (s : St cx base w.heap μ h) (hr : r = .ok (.value c) w) (hv : RelV w.heap μ v c) : Done cx base w μ h.size r v h :=
  ⟨c, w, μ, .inl hr, hv, s, ExtW.refl _ _, Dom.refl _ _⟩

theorem val_eq_some {h h' : H} {x : Option T} {v : T} : val h x = some (.val v h') ↔ x = some v ∧ h' = h := by
  unfold val
  cases x with
  | none => simp
  | some y => simp; intro _; exact eq_comm

theorem val_ne_call {h : H} {x : Option T} {f : FuncId} {args : List T} : val h x ≠ some (.call f args) := by
  unfold val
  cases x <;> simp

theorem hMove_sound {x : Operand} (s : St cx base w.heap μ h) (r : RelE w.heap μ mask e a.tmps) (ho : o.op = .move x ∨ o.op = .assign x) {v : T} {h' : H}
    (hh : hMove x cx mask e h = some (.val v h')) : Done cx base w μ h.size ((execOp a.eval o).run P w) v h' := by
  obtain ⟨hv, rfl⟩ := val_eq_some.1 hh
  refine Done.pure s ?_ (opnd_sound s r hv)
  rcases ho with ho | ho <;> simp [execOp, ho]

theorem hPick_sound {c x y : Operand} (s : St cx base w.heap μ h) (r : RelE w.heap μ mask e a.tmps) (ho : o.op = .pick c x y) {v : T} {h' : H}
    (hh : hPick c x y cx mask e h = some (.val v h')) : Done cx base w μ h.size ((execOp a.eval o).run P w) v h' := by
  obtain ⟨b, hb, hh⟩ := bnd_eq_some.1 hh
  have hc := opnd_sound s r hb
  cases b <;> simp at hh
  rename_i b
  have heq := hc.inv_bool
  cases b with
  | false =>
    obtain ⟨hv, rfl⟩ := val_eq_some.1 hh
    exact Done.pure s (by simp [execOp, ho, heq, asBool]) (opnd_sound s r hv)
  | true =>
    obtain ⟨hv, rfl⟩ := val_eq_some.1 hh
    exact Done.pure s (by simp [execOp, ho, heq, asBool]) (opnd_sound s r hv)

theorem hNilCheck_sound {x : Operand} (s : St cx base w.heap μ h) (r : RelE w.heap μ mask e a.tmps) (ho : o.op = .nilCheck x) {v : T} {h' : H}
    (hh : hNilCheck x cx mask e h = some (.val v h')) : Done cx base w μ h.size ((execOp a.eval o).run P w) v h' := by
  obtain ⟨b, hb, hh⟩ := bnd_eq_some.1 hh
  have hc := opnd_sound s r hb
  cases b <;> simp at hh
  · obtain ⟨rfl, rfl⟩ := hh
    obtain ⟨L, ad, hq, _⟩ := hc.inv_ptr
    exact Done.pure s (by simp [execOp, ho, hq]) (hq ▸ hc)
  · obtain ⟨rfl, rfl⟩ := hh
    obtain ⟨blk, off, arr, t, fz, hq, _⟩ := hc.inv_tptr
    exact Done.pure s (by simp [execOp, ho, hq]) (hq ▸ hc)
  · obtain ⟨rfl, rfl⟩ := hh
    obtain ⟨cs, hq, _⟩ := hc.inv_func
    exact Done.pure s (by simp [execOp, ho, hq]) (hq ▸ hc)

theorem hIface_sound (tys : TysOk P cx) {t : TypeId} {x : Operand} (s : St cx base w.heap μ h) (r : RelE w.heap μ mask e a.tmps) (ho : o.op = .makeInterface t x) {v : T} {h' : H}
    (hh : hIface t x cx mask e h = some (.val v h')) : Done cx base w μ h.size ((execOp a.eval o).run P w) v h' := by
  obtain ⟨ty, hty, hh⟩ := bnd_eq_some.1 hh
  obtain ⟨i, d, z, h1, h2, h3, h4, h5, _⟩ := (tys.ty t ty hty).unfold
  have key : ∀ {h'' : H}, (bnd (opnd cx mask e x) fun a => chk a.good (val h (some (.iface t a)))) = some (.val v h'') → (∀ ms, d ≠ .interface ms) → Done cx base w μ h.size ((execOp a.eval o).run P w) v h'' := by
    intro h'' hh hd
    obtain ⟨b, hb, hh⟩ := bnd_eq_some.1 hh
    obtain ⟨_, hh⟩ := chk_eq_some.1 hh
    obtain ⟨hv, rfl⟩ := val_eq_some.1 hh
    simp at hv; subst hv
    refine Done.pure (c := .iface t (a.eval x)) s ?_ (.iface t b _ (opnd_sound s r hb))
    simp only [execOp, ho, Instr.makeInterface, Sem.run_bind, run_underlying h2, Result.andThen_ok]
    cases d <;> first | rfl | exact absurd rfl (hd _)
  cases hu : ty.u <;> rw [hu] at hh h5 <;> first | (exact key hh (by rintro ms rfl; simp [uOf] at h5)) | (simp at hh)

theorem hFunc_sound {fn : Fn} {first captured : Array Operand} (s : St cx base w.heap μ h) (r : RelE w.heap μ mask e a.tmps) (ho : o.op = .makeFunc fn first captured) {v : T} {h' : H}
    (hh : hFunc fn first captured cx mask e h = some (.val v h')) : Done cx base w μ h.size ((execOp a.eval o).run P w) v h' := by
  unfold hFunc at hh
  split at hh
  · rename_i f
    split at hh
    · rename_i hf
      obtain ⟨cs, hcs, hh⟩ := bnd_eq_some.1 hh
      obtain ⟨hv, rfl⟩ := val_eq_some.1 hh
      simp at hv; subst hv
      have hL := opnds_sound s r hcs
      refine Done.pure (c := .func (.func f) #[] (captured.map a.eval)) s ?_ (.func f cs _ (by simpa using hL.1.symm) fun k v hv => ?_)
      · have : first = #[] := by cases first; simpa using hf
        simp [execOp, ho, Instr.makeFunc, this]
      · have := hL.2 k v hv
        simpa [Array.getD_eq_getD_getElem?, List.getD] using this
    · simp at hh
  · simp at hh

theorem hExtract_sound {x : Operand} {i : Nat} (s : St cx base w.heap μ h) (r : RelE w.heap μ mask e a.tmps) (ho : o.op = .extract x i) {v : T} {h' : H}
    (hh : hExtract x i cx mask e h = some (.val v h')) : Done cx base w μ h.size ((execOp a.eval o).run P w) v h' := by
  obtain ⟨b, hb, hh⟩ := bnd_eq_some.1 hh
  have hc := opnd_sound s r hb
  cases b <;> simp at hh
  obtain ⟨hv, rfl⟩ := val_eq_some.1 hh
  obtain ⟨cs, hq, hL⟩ := hc.inv_tuple
  obtain ⟨c, hc1, hc2⟩ := hL.get hv
  exact Done.pure s (by simp only [execOp, ho, hq, Instr.extract]; simp at hc1; simp [hc1]) hc2

end
end Go.TI
