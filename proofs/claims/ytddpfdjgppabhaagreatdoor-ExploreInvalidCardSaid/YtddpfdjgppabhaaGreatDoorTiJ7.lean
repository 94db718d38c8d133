/- The interpreter of trees, part 7 of 8: TiOut TiHR TiMapW TiArg TiOwn. -/
import Derived.Test.YtddpfdjgppabhaaGreatDoorTiJ6
import Derived.Test.YtddpfdjgppabhaaGreatDoorTiJ5
set_option linter.unusedSimpArgs false
set_option linter.unusedVariables false
/- Walks: slices that a function builds by append. -/
namespace Go.TI
set_option linter.unusedVariables false
set_option linter.unusedSimpArgs false
/-- The boxes below lo stay as they are. -/
structure Fr (lo : Nat) (h h' : H) : Prop where
  size : h.size ≤ h'.size
  hp : Hp h → Hp h'
  get : ∀ c, c < lo → h'.get c = h.get c
  low : lo ≤ h.low → lo ≤ h'.low
theorem Fr.refl (lo : Nat) (h : H) : Fr lo h h := ⟨Nat.le_refl _, id, fun _ _ => rfl, id⟩
theorem Fr.trans {lo : Nat} {h h1 h2 : H} (a : Fr lo h h1) (b : Fr lo h1 h2) : Fr lo h h2 := ⟨Nat.le_trans a.size b.size, fun k => b.hp (a.hp k), fun c hc => (b.get c hc).trans (a.get c hc), fun k => b.low (a.low k)⟩
theorem Fr.cons {lo : Nat} {h : H} (hl : lo ≤ h.size) (x : Box) : Fr lo h (h.cons x) := ⟨by simp, by simp, fun c hc => by simp; omega, id⟩
theorem putB_low (h : H) (b : Nat) (y : Box) (lo : Nat) (h1 : lo ≤ h.low) (h2 : lo ≤ b) : lo ≤ (putB h b y).low := by
  unfold putB
  cases hp : h.put b y with
  | none => exact h1
  | some h' =>
    obtain ⟨size, low, boxes⟩ := h
    have hp : (chk (Nat.blt b size) (bnd (setNth boxes (Nat.sub (Nat.sub size 1) b) y) fun bs => @Bool.rec (fun _ => Option H) (some ⟨size, low, bs⟩) (some ⟨size, b, bs⟩) (Nat.blt b low))) = some h' := hp
    obtain ⟨_, hp⟩ := chk_eq_some.1 hp
    obtain ⟨bs, _, hp⟩ := bnd_eq_some.1 hp
    show lo ≤ h'.low
    cases hlw : Nat.blt b low <;> rw [hlw] at hp <;> simp only [Option.some.injEq] at hp <;> subst hp
    · exact h1
    · exact h2
theorem Fr.put {lo : Nat} {h : H} {b : Nat} {x : Box} (hg : h.get b = some x) (hb : lo ≤ b) (y : Box) : Fr lo h (putB h b y) := ⟨by simp, by simp, fun c hc => by rw [putB_get hg, if_neg (by omega)], fun k => putB_low h b y lo k hb⟩
/-- A slice of the function's own: nil, or a box from lo on that it fills. -/
def Own (h : H) (lo : Nat) (v : T) (sz : Nat) (es : List T) : Prop :=
  (v = .tree [] false ∧ es = []) ∨ ∃ b ep ver ex, lo ≤ b ∧ v = .arr b ep 0 es.length false ∧ h.get b = some ⟨sz, ep, ver, ex, false, es⟩
theorem Own.nil (h : H) (lo sz : Nat) : Own h lo (.tree [] false) sz [] := .inl ⟨rfl, rfl⟩
theorem Own.cons {h : H} {lo : Nat} {v : T} {sz : Nat} {es : List T} (ho : Own h lo v sz es) (x : Box) : Own (h.cons x) lo v sz es := by
  rcases ho with ho | ⟨b, ep, ver, ex, h1, h2, h3⟩
  · exact .inl ho
  · have := H.get_lt h3
    exact .inr ⟨b, ep, ver, ex, h1, h2, by rw [get_consN, if_neg (by omega)]; exact h3⟩
/-- It is not the box that is changed. -/
theorem Own.put {h : H} {lo : Nat} {v : T} {sz : Nat} {es : List T} (ho : Own h lo v sz es) {c : Nat} {x : Box} (hg : h.get c = some x) (hc : c < lo) (y : Box) : Own (putB h c y) lo v sz es := by
  rcases ho with ho | ⟨b, ep, ver, ex, h1, h2, h3⟩
  · exact .inl ho
  · exact .inr ⟨b, ep, ver, ex, h1, h2, by rw [putB_get hg, if_neg (by omega)]; exact h3⟩
theorem Own.good {h : H} {lo : Nat} {v : T} {sz : Nat} {es : List T} (ho : Own h lo v sz es) : v.good = true := by
  rcases ho with ⟨rfl, _⟩ | ⟨b, ep, ver, ex, h1, rfl, h3⟩ <;> rfl
theorem Own.cells {h : H} {lo : Nat} {v : T} {sz : Nat} {es : List T} (ho : Own h lo v sz es) : v.cells = [v] := by
  rcases ho with ⟨rfl, _⟩ | ⟨b, ep, ver, ex, h1, rfl, h3⟩ <;> rfl
theorem Own.items {h : H} {lo : Nat} {v : T} {sz : Nat} {es : List T} (ho : Own h lo v sz es) : h.items v = some es := by
  rcases ho with ⟨rfl, rfl⟩ | ⟨b, ep, ver, ex, h1, rfl, h3⟩
  · rfl
  · rw [items_arr, h3]; simp
theorem Own.fz {h : H} {lo : Nat} {v : T} {sz : Nat} {es es' : List T} (ho : Own h lo v sz es) (he : mapOpt (fzD h 11) es = some es') : TI.fz h v = some (sl es') := by
  rcases ho with ⟨rfl, rfl⟩ | ⟨b, ep, ver, ex, h1, rfl, h3⟩
  · have he : some [] = some es' := he
    simp only [Option.some.injEq] at he; subst he
    simp
  · rw [fz_arr, items_arr, h3]
    simp [he]
theorem Own.fzV {h : H} {lo : Nat} {v : T} {sz : Nat} {es es' : List T} (ho : Own h lo v sz es) (he : mapOpt (fzD h 11) es = some es') : TI.fzV h v = some (sl es') := by
  rw [← ho.fz he]
  rcases ho with ⟨rfl, _⟩ | ⟨b, ep, ver, ex, h1, rfl, h3⟩ <;> rfl
theorem Own.len {cx : Ctx} {h : H} {lo : Nat} {v : T} {sz : Nat} {es : List T} (ho : Own h lo v sz es) (h1 : H) (ty : Ty) (t : TypeId) (hu : ty.u = .slice t) : lenW cx h1 ty v = some (.val (.int .i64 es.length) h1) := by
  rcases ho with ⟨rfl, rfl⟩ | ⟨b, ep, ver, ex, _, rfl, _⟩ <;> simp [hu]
theorem Own.idx {h : H} {lo : Nat} {v : T} {sz : Nat} {es : List T} (ho : Own h lo v sz es) {te : Ty} (hs : te.size = sz) {i : Nat} (hi : i < es.length) : ∃ b ep, lo ≤ b ∧ idxSlice h te v i = some (.val (.ptr b ep i 0) h) ∧ ∃ ver ex, h.get b = some ⟨sz, ep, ver, ex, false, es⟩ := by
  rcases ho with ⟨rfl, rfl⟩ | ⟨b, ep, ver, ex, h1, rfl, h3⟩
  · simp at hi
  · exact ⟨b, ep, h1, by simp [h3, hi, hs], ver, ex, h3⟩
@[simp] theorem oH_append {cx : Ctx} {mask : Nat} {e : Env} {h : H} (args : List Operand) (t tx : TypeId) : opH (.call ⟨.builtin .append, args.toArray, #[t, tx]⟩) cx mask e h = bnd (mapOpt (opnd cx mask e) args) fun l => (match l with | [s, x] => bAppend cx h t tx s x | _ => none) := rfl
theorem fits_all {sz : Nat} {es : List T} (he : ∀ e ∈ es, e.cells.length = sz) : fits sz es = true := by
  cases es with
  | nil => rfl
  | cons e es =>
    show Nat.beq (lenN e.cells) sz = true
    rw [lenN_eq, he e (by simp)]; simp
theorem appendNew_eq {h : H} {sz bytes : Nat} {xs : List T} (hx : ∀ e ∈ xs, e.cells.length = sz) (hb : 1 ≤ bytes) (hn : xs.length * bytes ≤ 70368744177664) :
    h.appendNew sz bytes [] xs = some (.arr h.size 0 0 xs.length false, h.cons ⟨sz, 0, 0, false, false, xs⟩) := by
  unfold H.appendNew
  rw [appN_eq, bnd_some, lenN_eq, normNat_eq, bnd_some, fits_all hx, fits_all (by simp)]
  simp [hb, hn]
theorem appendOn_eq {h : H} {sz bytes b ep ver : Nat} {ex : Bool} {es xs : List T} (hg : h.get b = some ⟨sz, ep, ver, ex, false, es⟩) (hx : ∀ e ∈ xs, e.cells.length = sz) (hb : 1 ≤ bytes) (hn : (es.length + xs.length) * bytes ≤ 70368744177664) :
    h.appendOn sz bytes b ep es.length xs = some (.arr b (ep + 1) 0 (es ++ xs).length false, putB h b ⟨sz, ep + 1, ver + 1, false, false, es ++ xs⟩) := by
  unfold H.appendOn
  rw [hg]
  simp only [bnd_some, takeN_eq, Nat.le_refl, if_true, List.take_length, appN_eq, lenN_eq, normNat_eq, fits_all hx, put_some hg]
  simp [hb, hn, List.length_append]
/-- 'append(s, xs..)'. -/
theorem Own.app {cx : Ctx} {h : H} {lo : Nat} {v : T} {sz : Nat} {es : List T} (ho : Own h lo v sz es) (hlo : lo ≤ h.size) {t tx el : TypeId} {ty tyx te : Ty} (h1 : cx.ty t = some ty) (h2 : ty.u = .slice el) (h3 : cx.ty el = some te) (h4 : cx.ty tx = some tyx) (h5 : tyx.u = .slice el) (hs : te.size = sz) (hb : 1 ≤ te.bytes)
    {x : T} {xs : List T} (hxs : h.items x = some xs) (hx : ∀ e ∈ xs, e.cells.length = sz) (hn : (es.length + xs.length) * te.bytes ≤ 70368744177664) :
    ∃ v' h', bAppend cx h t tx v x = some (.val v' h') ∧ Own h' lo v' sz (es ++ xs) ∧ Fr lo h h' := by
  have hA : bAppend cx h t tx v x = valNew (h.append te.size te.bytes v xs) := by
    unfold bAppend elemTy srcItems
    rw [h1, bnd_some, h4, bnd_some]
    simp only [h2, h3, h5, hxs, bnd_some]
    rw [hs, fits_all hx, chk_true]
  rw [hA, hs]
  cases xs with
  | nil =>
    refine ⟨v, h, ?_, by simpa using ho, Fr.refl _ _⟩
    show valNew (chk (isSliceT v) (some (v, h))) = _
    rcases ho with ⟨rfl, _⟩ | ⟨b, ep, ver, ex, _, rfl, _⟩ <;> rfl
  | cons y ys =>
    rcases ho with ⟨rfl, rfl⟩ | ⟨b, ep, ver, ex, k1, rfl, k3⟩
    · refine ⟨.arr h.size 0 0 (y :: ys).length false, h.cons ⟨sz, 0, 0, false, false, y :: ys⟩, ?_, .inr ⟨h.size, 0, 0, false, hlo, rfl, by simp⟩, Fr.cons hlo _⟩
      show valNew (h.appendNew sz te.bytes [] (y :: ys)) = _
      rw [appendNew_eq hx hb (by simpa using hn)]; rfl
    · refine ⟨.arr b (ep + 1) 0 (es ++ y :: ys).length false, putB h b ⟨sz, ep + 1, ver + 1, false, false, es ++ y :: ys⟩, ?_, .inr ⟨b, ep + 1, ver + 1, false, k1, rfl, by rw [putB_get k3, if_pos rfl]⟩, Fr.put k3 k1 _⟩
      show valNew (h.appendOn sz te.bytes b ep es.length (y :: ys)) = _
      rw [appendOn_eq k3 hx hb hn]; rfl
/-- 'append(s, x)': the element lies in a box of its own. -/
theorem Own.app1 {cx : Ctx} {h : H} {lo : Nat} {v : T} {sz : Nat} {es : List T} (ho : Own h lo v sz es) (hlo : lo ≤ h.size) {t el : TypeId} {ty te : Ty} (h1 : cx.ty t = some ty) (h2 : ty.u = .slice el) (h3 : cx.ty el = some te) (hs : te.size = sz) (hb : 1 ≤ te.bytes)
    {e : T} (he : e.cells.length = sz) (hn : (es.length + 1) * te.bytes ≤ 70368744177664) :
    ∃ v' h', bAppend cx (h.cons ⟨sz, 0, 0, true, false, [e]⟩) t t v (.arr h.size 0 0 1 false) = some (.val v' h') ∧ Own h' lo v' sz (es ++ [e]) ∧ Fr lo h h' := by
  obtain ⟨v', h', k1, k2, k3⟩ := (ho.cons ⟨sz, 0, 0, true, false, [e]⟩).app (x := .arr h.size 0 0 1 false) (xs := [e]) (by simp; omega) h1 h2 h3 h1 h2 hs hb (by rw [items_arr]; simp) (by simpa using he) (by simpa using hn)
  exact ⟨v', h', k1, k2, (Fr.cons hlo _).trans k3⟩
/-! ### a change in a heap that is known box by box -/
@[simp] theorem low_cons (h : H) (x : Box) : (h.cons x).low = h.low := id rfl
@[simp] theorem size_hE : H.size hE = 0 := id rfl
@[simp] theorem low_hE : H.low hE = 0 := id rfl
@[simp] theorem putB_top (h : H) (x y : Box) (b : Nat) (hb : b = h.size) (hl : h.low ≤ h.size) : putB (h.cons x) b y = h.cons y := by
  subst hb
  obtain ⟨size, low, boxes⟩ := h
  unfold putB
  have : (H.cons ⟨size, low, boxes⟩ x).put size y = some (H.cons ⟨size, low, boxes⟩ y) := by
    show (chk (Nat.blt size (size + 1)) (bnd (setNth (x :: boxes) (Nat.sub (Nat.sub (size + 1) 1) size) y) fun bs => @Bool.rec (fun _ => Option H) (some ⟨size + 1, low, bs⟩) (some ⟨size + 1, size, bs⟩) (Nat.blt size low))) = some ⟨size + 1, low, y :: boxes⟩
    rw [show Nat.blt size (size + 1) = true by rw [Nat.blt_eq]; omega, chk_true, setNth_eq, show Nat.sub (Nat.sub (size + 1) 1) size = 0 by show size + 1 - 1 - size = 0; omega]
    simp only [List.length_cons, Nat.zero_lt_succ, if_true, List.set_cons_zero, bnd_some]
    rw [show Nat.blt size low = false by rw [Bool.eq_false_iff]; intro k; rw [Nat.blt_eq] at k; simp at hl; omega]
  rw [this]; rfl
@[simp] theorem putB_in (h : H) (x y : Box) (b : Nat) (hb : b < h.size) : putB (h.cons x) b y = (putB h b y).cons x := by
  obtain ⟨size, low, boxes⟩ := h
  have hb : b < size := hb
  have h1 : (H.cons ⟨size, low, boxes⟩ x).put b y = chk (Nat.blt b (size + 1)) (bnd (setNth (x :: boxes) (Nat.sub (Nat.sub (size + 1) 1) b) y) fun bs => @Bool.rec (fun _ => Option H) (some ⟨size + 1, low, bs⟩) (some ⟨size + 1, b, bs⟩) (Nat.blt b low)) := rfl
  have h2 : (⟨size, low, boxes⟩ : H).put b y = chk (Nat.blt b size) (bnd (setNth boxes (Nat.sub (Nat.sub size 1) b) y) fun bs => @Bool.rec (fun _ => Option H) (some ⟨size, low, bs⟩) (some ⟨size, b, bs⟩) (Nat.blt b low)) := rfl
  unfold putB
  rw [h1, h2, show Nat.blt b (size + 1) = true by rw [Nat.blt_eq]; omega, show Nat.blt b size = true by rw [Nat.blt_eq]; exact hb, chk_true, chk_true, setNth_eq, setNth_eq,
    show Nat.sub (Nat.sub (size + 1) 1) b = Nat.sub (Nat.sub size 1) b + 1 by show size + 1 - 1 - b = size - 1 - b + 1; omega]
  by_cases hl : Nat.sub (Nat.sub size 1) b < boxes.length
  · rw [if_pos (by simpa using hl), if_pos hl, bnd_some, bnd_some]
    cases Nat.blt b low <;> rfl
  · rw [if_neg (by simpa using hl), if_neg hl]; rfl
theorem setIn_agg (cs : List T) (j : Nat) (vs : List T) : setIn (.agg cs) j vs = bnd (splice cs j vs) fun r => some (.agg r) := rfl
attribute [simp] setIn_agg
@[simp] theorem setIn_int (k : IntKind) (n : Int) (v : T) : setIn (.int k n) 0 [v] = some v := id rfl
@[simp] theorem setIn_bool (b : Bool) (v : T) : setIn (.bool b) 0 [v] = some v := id rfl
@[simp] theorem setIn_str (s : List Nat) (v : T) : setIn (.str s) 0 [v] = some v := id rfl
@[simp] theorem setIn_sl (es : List T) (v : T) : setIn (sl es) 0 [v] = some v := by cases es <;> rfl
@[simp] theorem setIn_tree (es : List T) (f : Bool) (v : T) : setIn (.tree es f) 0 [v] = some v := id rfl
@[simp] theorem setIn_arr (b ep o l : Nat) (f : Bool) (v : T) : setIn (.arr b ep o l f) 0 [v] = some v := id rfl
@[simp] theorem fromCp_nil (i : Nat) : fromCp [] i = false := id rfl
@[simp] theorem fromCp_cons (a b i : Nat) (l : List (Nat × Nat)) : fromCp ((a, b) :: l) i = (decide (a = i) || fromCp l i) := by
  unfold fromCp; rw [List.any_cons]; congr 1
@[simp] theorem inCp_nil (i j : Nat) : inCp [] i j = false := id rfl
@[simp] theorem inCp_cons (a b i j : Nat) (l : List (Nat × Nat)) : inCp ((a, b) :: l) i j = ((decide (a = i) && decide (b = j)) || inCp l i j) := by
  unfold inCp; rw [List.any_cons]; congr 1
@[simp] theorem effCk_self (cp : List (Nat × Nat)) (i : Nat) (h : H) (lo : List (Nat × Nat)) : effCk cp i h h lo = True := by unfold effCk; simp
@[simp] theorem lookup_c {β : Type} (a k : Nat) (v : β) (l : List (Nat × β)) : List.lookup a ((k, v) :: l) = if a = k then some v else List.lookup a l := by
  rw [List.lookup_cons]
  by_cases h : a = k
  · subst h; simp
  · rw [if_neg h, show (a == k) = false by simpa using h]
/-- How many cells a value has. -/
def csz (v : T) : Nat := v.cells.length
@[simp] theorem csz_int (k : IntKind) (n : Int) : csz (.int k n) = 1 := id rfl
@[simp] theorem csz_bool (b : Bool) : csz (.bool b) = 1 := id rfl
@[simp] theorem csz_str (s : List Nat) : csz (.str s) = 1 := id rfl
@[simp] theorem csz_tree (es : List T) (f : Bool) : csz (.tree es f) = 1 := id rfl
@[simp] theorem csz_wild : csz .ewild = 1 := id rfl
@[simp] theorem csz_arr (b ep o l : Nat) (f : Bool) : csz (.arr b ep o l f) = 1 := id rfl
@[simp] theorem csz_sl (es : List T) : csz (sl es) = 1 := by unfold csz; rw [cells_sl]; rfl
/-! ### slicing, making, converting -/
noncomputable def slK (cx : Ctx) (h : H) (ty : Ty) (x : T) (lo hi mx : Option Nat) : Option Did := chk (sliceable cx h ty.u x) (chk (mxOk hi mx) (val h (sliceT (asSlice ty.u x) lo hi mx)))
noncomputable def oiK (cx : Ctx) (mask : Nat) (e : Env) (x : Option Operand) : Option (Option Nat) := optIdx cx mask e x
section
variable {cx : Ctx} {mask : Nat} {e : Env} {h : H}
@[simp] theorem oiK_none : oiK cx mask e none = some none := id rfl
@[simp] theorem oiK_some (o : Operand) : oiK cx mask e (some o) = bnd (opnd cx mask e o) fun v => bnd (toIdx v) fun n => some (some n) := id rfl
@[simp] theorem oH_slice (t : TypeId) (x : Operand) (lo hi mx : Option Operand) : opH (.slice t x lo hi mx) cx mask e h = bnd (cx.ty t) fun ty => bnd (opnd cx mask e x) fun x => bnd (oiK cx mask e lo) fun lo => bnd (oiK cx mask e hi) fun hi => bnd (oiK cx mask e mx) fun mx => slK cx h ty x lo hi mx := by
  show (bnd (cx.ty t) fun ty => bnd (opnd cx mask e x) fun x => chk (sliceable cx h ty.u x) <| bnd (optIdx cx mask e lo) fun lo => bnd (optIdx cx mask e hi) fun hi => bnd (optIdx cx mask e mx) fun mx => chk (mxOk hi mx) (val h (sliceT (asSlice ty.u x) lo hi mx))) = _
  unfold oiK slK
  congr 1; funext ty; congr 1; funext x
  cases sliceable cx h ty.u x with
  | true => rfl
  | false =>
    simp only [chk_false]
    cases optIdx cx mask e lo <;> simp
    cases optIdx cx mask e hi <;> simp
    cases optIdx cx mask e mx <;> simp
theorem cutL_eq {α : Type} (l : List α) (lo hi : Nat) (hlo : lo ≤ hi) (hhi : hi ≤ l.length) : cutL l lo hi = some ((l.drop lo).take (hi - lo)) := by
  unfold cutL
  rw [dropN_eq, if_pos (by omega), bnd_some, takeN_eq]
  rw [if_pos (by simp; omega)]; rfl
theorem slice_sl (es : List T) (lo hi : Nat) (hlo : lo ≤ hi) (hhi : hi ≤ es.length) (a b : Option Nat) (ha : optD a 0 = lo) (hb : optD b es.length = hi) : sliceT (sl es) a b none = some (sl ((es.drop lo).take (hi - lo))) := by
  cases es with
  | nil =>
    have h1 : hi = 0 := by simpa using hhi
    subst h1
    have h2 : lo = 0 := by omega
    subst h2
    show (chk (Nat.beq (optD a 0) 0) (chk (Nat.beq (optD b 0) 0) (some T.ewild))) = _
    have hb : optD b 0 = 0 := hb
    rw [ha, hb]; rfl
  | cons x r =>
    show sliceTree (x :: r) false (optD a 0) (optD b (lenN (x :: r))) none = _
    rw [lenN_eq, ha, hb]
    unfold sliceTree
    rw [cutL_eq _ _ _ hlo hhi, bnd_some, show Nat.ble lo hi = true by simpa using hlo, chk_true]
    cases (List.take (hi - lo) (List.drop lo (x :: r))) <;> rfl
theorem slK_sl {ty te : Ty} {el : TypeId} (hu : ty.u = .slice el) (ht : cx.ty el = some te) {es : List T} (he : ∀ x ∈ es, x.cells.length = te.size) {a b : Option Nat} (hlo : optD a 0 ≤ optD b es.length) (hhi : optD b es.length ≤ es.length) :
    slK cx h ty (sl es) a b none = some (.val (sl ((es.drop (optD a 0)).take (optD b es.length - optD a 0))) h) := by
  unfold slK
  have h1 : sliceable cx h ty.u (sl es) = true := by
    rw [hu]
    unfold sliceable
    simp only [ht]
    cases es with
    | nil => rfl
    | cons x r => exact fits_all he
  rw [h1, chk_true, show mxOk b none = true from rfl, chk_true, show asSlice ty.u (sl es) = sl es by rw [hu]; rfl, slice_sl es _ _ hlo hhi a b rfl rfl]
  rfl
@[simp] theorem slK_to {α : Type} (ty te : Ty) (el : TypeId) (f : α → T) (l : List α) (n : Nat) (hu : ty.u = .slice el) (ht : cx.ty el = some te) (hf : ∀ x, csz (f x) = te.size) (hn : n ≤ l.length) : slK cx h ty (sl (l.map f)) none (some n) none = some (.val (sl ((l.take n).map f)) h) := by
  rw [slK_sl hu ht (by simpa using fun a _ => show (f a).cells.length = te.size from hf a) (by simp [optD]) (by simpa [optD] using hn)]
  simp [optD, List.map_take]
@[simp] theorem slK_from {α : Type} (ty te : Ty) (el : TypeId) (f : α → T) (l : List α) (n : Nat) (hu : ty.u = .slice el) (ht : cx.ty el = some te) (hf : ∀ x, csz (f x) = te.size) (hn : n ≤ l.length) : slK cx h ty (sl (l.map f)) (some n) none none = some (.val (sl ((l.drop n).map f)) h) := by
  rw [slK_sl hu ht (by simpa using fun a _ => show (f a).cells.length = te.size from hf a) (by simpa [optD] using hn) (by simp [optD])]
  simp only [optD, List.length_map, ← List.map_drop]
  rw [List.take_of_length_le (by simp)]
@[simp] theorem slK_mid {α : Type} (ty te : Ty) (el : TypeId) (f : α → T) (l : List α) (n m : Nat) (hu : ty.u = .slice el) (ht : cx.ty el = some te) (hf : ∀ x, csz (f x) = te.size) (hn : n ≤ m) (hm : m ≤ l.length) : slK cx h ty (sl (l.map f)) (some n) (some m) none = some (.val (sl (((l.drop n).take (m - n)).map f)) h) := by
  rw [slK_sl hu ht (by simpa using fun a _ => show (f a).cells.length = te.size from hf a) (by simpa [optD] using hn) (by simpa [optD] using hm)]
  simp [optD, List.map_take, List.map_drop]
@[simp] theorem slK_arr (ty te : Ty) (el : TypeId) (b ep o l n : Nat) (f : Bool) (x : Box) (hu : ty.u = .slice el) (ht : cx.ty el = some te) (hg : h.get b = some x) (hs : x.sz = te.size) (hn : n ≤ l) : slK cx h ty (.arr b ep o l false) none (some n) none = some (.val (.arr b ep o n false) h) := by
  unfold slK
  have h1 : sliceable cx h ty.u (.arr b ep o l false) = true := by
    rw [hu]; unfold sliceable; simp only [ht, hg, hs, Nat.beq_refl]
  rw [h1, chk_true, show mxOk (some n) none = true from rfl, chk_true, show asSlice ty.u (.arr b ep o l false) = .arr b ep o l false by rw [hu]; rfl]
  show val h (chk (Nat.ble 0 n) (chk (Nat.ble n l) (bnd (normNat (Nat.add o 0)) fun o' => bnd (normNat (Nat.sub n 0)) fun l' => some (T.arr b ep o' l' false)))) = _
  simp [hn]
noncomputable def cvK (cx : Ctx) (h : H) (src dst : TypeId) (d : Ty) (a : T) : Option Did := match d.u with
    | .slice _ => val h (bytesT cx dst a)
    | .str => (match a with
      | .str _ => val h (conv cx dst a)
      | _ => val h (strT cx h src a))
    | _ => val h (conv cx dst a)
@[simp] theorem oH_convert (src dst : TypeId) (x : Operand) : opH (.convert src dst x) cx mask e h = bnd (cx.ty src) fun _ => bnd (opnd cx mask e x) fun a => bnd (cx.ty dst) fun d => cvK cx h src dst d a := rfl
theorem cvK_int {src dst : TypeId} {d : Ty} {k k' : IntKind} {n : Int} (hd : cx.ty dst = some d) (hu : d.u = .int k) (hw : wrapF k n = n) : cvK cx h src dst d (.int k' n) = some (.val (.int k n) h) := by
  unfold cvK
  rw [hu]
  show val h (bnd (cx.ty dst) fun d => match d.u with
    | .int k => (match (T.int k' n) with | .int _ n => rWrap k n | _ => none)
    | .str => _
    | _ => none) = _
  rw [hd, bnd_some, hu]
  simp [rWrap, hw]
@[simp] theorem cvK_i64 (src dst : TypeId) (d : Ty) (k' : IntKind) (n : Int) (hd : cx.ty dst = some d) (hu : d.u = .int .i64) (h1 : -9223372036854775808 ≤ n) (h2 : n < 9223372036854775808) : cvK cx h src dst d (.int k' n) = some (.val (.int .i64 n) h) := cvK_int hd hu (wrapF_in h1 h2)
@[simp] theorem oH_makeSlice (t : TypeId) (l c : Operand) : opH (.makeSlice t l c) cx mask e h = bnd (cx.ty t) fun ty => (match ty.u with
  | .slice el => bnd (cx.ty el) fun te => bnd (opnd cx mask e l) fun l => bnd (opnd cx mask e c) fun c => bnd (toIdx l) fun l => bnd (toIdx c) fun c =>
      chk (decide (1 ≤ te.size)) <| chk (decide (1 ≤ te.bytes)) <| chk (decide (l ≤ c)) (chk (decide (c * te.bytes ≤ 70368744177664)) (some (.val (.arr h.size 0 0 l false) (h.cons ⟨te.size, 0, 0, decide (l = c), false, List.replicate l te.zeroT⟩))))
  | _ => none) := by
  show (bnd (cx.ty t) fun ty => _) = _
  congr 1; funext ty
  cases ty.u <;> first | rfl | skip
  rename_i el
  simp only [replicateN_eq, H.new_cons, ble_nat, beq_nat, newBox_eq, valNew_some]
  rfl
@[simp] theorem oH_makeFunc (f : FuncId) (cs : List Operand) : opH (.makeFunc (.func f) #[] cs.toArray) cx mask e h = bnd (mapOpt (opnd cx mask e) cs) fun l => some (.val (.func f l) h) := by
  show (bnd (opnds cx mask e cs) fun cs => val h (some (T.func f cs))) = _
  simp
end
/-- A slice of the function's own whose elements are of a family. -/
theorem Own.appM {cx : Ctx} {h : H} {lo : Nat} {v : T} {sz : Nat} {α : Type} {f : α → T} {es : List α} (ho : Own h lo v sz (es.map f)) (hlo : lo ≤ h.size) {t el : TypeId} {ty te : Ty} (h1 : cx.ty t = some ty) (h2 : ty.u = .slice el) (h3 : cx.ty el = some te) (hs : te.size = sz) (hb : 1 ≤ te.bytes)
    (hf : ∀ x, csz (f x) = sz) (xs : List α) (hn : (es.length + xs.length) * te.bytes ≤ 70368744177664) :
    ∃ v' h', bAppend cx h t t v (sl (xs.map f)) = some (.val v' h') ∧ Own h' lo v' sz ((es ++ xs).map f) ∧ Fr lo h h' := by
  obtain ⟨v', h', k1, k2, k3⟩ := ho.app (x := sl (xs.map f)) (xs := xs.map f) hlo h1 h2 h3 h1 h2 hs hb (by simp) (by simpa using fun a _ => show (f a).cells.length = sz from hf a) (by simpa using hn)
  exact ⟨v', h', k1, by rw [List.map_append]; exact k2, k3⟩
theorem Own.appM1 {cx : Ctx} {h : H} {lo : Nat} {v : T} {sz : Nat} {α : Type} {f : α → T} {es : List α} (ho : Own h lo v sz (es.map f)) (hlo : lo ≤ h.size) {t el : TypeId} {ty te : Ty} (h1 : cx.ty t = some ty) (h2 : ty.u = .slice el) (h3 : cx.ty el = some te) (hs : te.size = sz) (hb : 1 ≤ te.bytes)
    (hf : ∀ x, csz (f x) = sz) (x : α) (hn : (es.length + 1) * te.bytes ≤ 70368744177664) :
    ∃ v' h', bAppend cx (h.cons ⟨sz, 0, 0, true, false, [f x]⟩) t t v (.arr h.size 0 0 1 false) = some (.val v' h') ∧ Own h' lo v' sz ((es ++ [x]).map f) ∧ Fr lo h h' := by
  obtain ⟨v', h', k1, k2, k3⟩ := ho.app1 hlo h1 h2 h3 hs hb (e := f x) (hf x) (by simpa using hn)
  exact ⟨v', h', k1, by rw [List.map_append]; exact k2, k3⟩
theorem Own.fzM {h : H} {lo : Nat} {v : T} {sz : Nat} {α : Type} {f : α → T} {es : List α} (ho : Own h lo v sz (es.map f)) (hf : ∀ x, fzD h 11 (f x) = some (f x)) : TI.fzV h v = some (sl (es.map f)) := ho.fzV (mapOpt_m _ _ _ hf)
/-- A pure contract, by a walk. -/
theorem walkR {P : Program} {cx : Ctx} {tb : Tabs} {ru : PRule} (hm : P.follows .mixedOrders = true) (tys : TysOk P cx) {f : FuncId} {fn : Func} {mask : Nat} {dl : DL} (k : FnAt P cx f fn mask dl) (n : ru.α → Nat) (hl : ∀ a, lowBs (ru.A a) = true) (hn : ∀ a, (ru.A a).length ≤ fn.ntmps)
    (hw : ∀ a, ru.pre a → ∀ vs, ArgsAt vs 0 (ru.A a) → W (codeD cx (cfT P cx tb) (n a) mask dl (fn.body.getD .skip) ⟨vs, .nil⟩ hE) (kend cx mask fn.results.toList fun l h => Fin0 h l (ru.R a))) : ru.Ok P cx f :=
  fun a ha => walkP hm tys k (cfT_ok P cx tb) (hl a) (hn a) (n a) (hw a ha)
attribute [simp] cfT_eq
end Go.TI

/- Contracts with boxes, by walks. -/
namespace Go.TI
set_option linter.unusedVariables false
set_option linter.unusedSimpArgs false
/-- The heap as a call begins. -/
def hr (h : H) : H := ⟨h.size, h.size, h.boxes⟩
@[simp] theorem hr_size (h : H) : (hr h).size = h.size := id rfl
@[simp] theorem hr_get (h : H) (b : Nat) : (hr h).get b = h.get b := H.get_relow h h.size b
@[simp] theorem hr_Hp (h : H) : Hp (hr h) = Hp h := id rfl
/-- What a call hands back, and the heap that it leaves. -/
def Left0 (keep : Bool) (h : H) (l : List T) (h' : H) (post : T → H → Prop) : Prop := ∃ r h'', leave keep h.size h.low (oneOrTuple l) h' = some (r, h'') ∧ (post r h'' ∨ post (cn r) h'')
section
variable {P : Program} {cx : Ctx} {cf : CallF} {mask : Nat}
theorem walkH (hm : P.follows .mixedOrders = true) (tys : TysOk P cx) {f : FuncId} {fn : Func} {dl : DL} (k : FnAt P cx f fn mask dl) (ck : CallOk P cx cf) (keep : Bool) {args : List T} {h : H} {post : T → H → Prop} (hn : args.length ≤ fn.ntmps) (n : Nat)
    (hw : ∀ vs, ArgsAt vs 0 args → W (codeD cx cf n mask dl (fn.body.getD .skip) ⟨vs, .nil⟩ (hr h)) (kend cx mask fn.results.toList fun l h' => Left0 keep h l h' post)) : ∃ r h', post r h' ∧ CallAt P cx ⟨f, args, h, r, h'⟩ := by
  obtain ⟨vars, hv, _, ha⟩ := initVars_args mask fn.ntmps 0 args hn
  obtain ⟨x, e, h1, ho, hx, l, hr1, r, h2, hl, hp⟩ := W_tmps (hw vars ha)
  have ho := codeD_sound _ k.dr _ _ _ ho
  obtain ⟨c, hb⟩ := body_of k.ok
  rw [hb] at ho
  have hbody : bodyT cx cf n fn mask keep args h = some (r, h2) := by
    unfold bodyT
    rw [hb]
    obtain ⟨size, low, boxes⟩ := h
    simp only
    rw [hv, bnd_some]
    have ho : codeT cx cf n mask c ⟨vars, .nil⟩ ⟨size, size, boxes⟩ = some (x, e, h1) := ho
    rw [ho, bnd_some, three_mk]
    have hres := results_tmps hr1
    rcases hx with rfl | rfl <;> (simp only; rw [hres, bnd_some]; exact hl)
  have hok : okFun ⟨fn, mask, keep, none⟩ = true := k.ok
  have hc : CallAt P cx ⟨f, args, h, r, h2⟩ := fun base w μ cargs s hL => quick_deep (F := ⟨fn, mask, keep, none⟩) hm tys k.at_ hok cf ck n args h r h2 hbody base w μ cargs s hL
  rcases hp with hp | hp
  · exact ⟨r, h2, hp, hc⟩
  · exact ⟨cn r, h2, hp, fun base w μ cargs s hL => (hc base w μ cargs s hL).mono fun v w' ⟨⟨μ1, k1, k2, k3, k4⟩, k5⟩ => ⟨⟨μ1, k1.cn, k2, k3, k4⟩, k5⟩⟩
/-- A contract with boxes, by a walk. -/
theorem walkHR {tb : Tabs} {S : HRule} (hm : P.follows .mixedOrders = true) (tys : TysOk P cx) {f : FuncId} {fn : Func} {dl : DL} (k : FnAt P cx f fn mask dl) (keep : Bool) (n : List T → H → Nat) (hn : ∀ args h, S.pre args h → args.length ≤ fn.ntmps)
    (hw : ∀ args h, S.pre args h → ∀ vs, ArgsAt vs 0 args → W (codeD cx (cfT P cx tb) (n args h) mask dl (fn.body.getD .skip) ⟨vs, .nil⟩ (hr h)) (kend cx mask fn.results.toList fun l h' => Left0 keep h l h' (S.post args h))) : S.Ok P cx f :=
  fun args h hp => by
    obtain ⟨r, h', h1, h2⟩ := walkH hm tys k (cfT_ok P cx tb) keep (hn args h hp) (n args h) (hw args h hp)
    exact ⟨r, h', h1, h2⟩
end
/-- A function that is walked from no box to no box, where it is not said what it returns. -/
theorem walkPE {P : Program} {cx : Ctx} {cf : CallF} {mask : Nat} (hm : P.follows .mixedOrders = true) (tys : TysOk P cx) {f : FuncId} {fn : Func} {dl : DL} (k : FnAt P cx f fn mask dl) (ck : CallOk P cx cf) {args : List T} {Q : T → Prop} (hl : lowBs args = true) (hn : args.length ≤ fn.ntmps) (n : Nat)
    (hw : ∀ vs, ArgsAt vs 0 args → W (codeD cx cf n mask dl (fn.body.getD .skip) ⟨vs, .nil⟩ hE) (kend cx mask fn.results.toList fun l h => ∃ r, Q r ∧ Fin0 h l r)) : ∃ r, Q r ∧ PureAt P cx f args r := by
  have key : ∃ r, Q r ∧ ∀ vs, ArgsAt vs 0 args → TI.look vs 0 = TI.look vs 0 → ∃ r', cn r' = r ∧ bodyT cx cf n fn mask false args hE = some (r', hE) := by
    obtain ⟨vars, hv, _, ha⟩ := initVars_args mask fn.ntmps 0 args hn
    obtain ⟨x, e, h, ho, hx, l, hr, r, hQ, hp, hf⟩ := W_tmps (hw vars ha)
    have ho := codeD_sound _ k.dr _ _ _ ho
    obtain ⟨c, hb⟩ := body_of k.ok
    rw [hb] at ho
    unfold finC at hf
    obtain ⟨r', hf, hc⟩ := bnd_eq_some.1 hf
    simp only [Option.some.injEq] at hc
    refine ⟨r, hQ, fun _ _ _ => ⟨r', hc, ?_⟩⟩
    unfold bodyT
    rw [hb]
    simp only
    rw [hv, bnd_some]
    have ho : codeT cx cf n mask c ⟨vars, .nil⟩ ⟨0, 0, []⟩ = some (x, e, h) := ho
    rw [ho, bnd_some, three_mk]
    have hres := results_tmps hr
    rcases hx with rfl | rfl <;> (simp only; rw [hres, bnd_some]; exact leave_of hp hf)
  obtain ⟨r, hQ, hk⟩ := key
  obtain ⟨vars, hv, _, ha⟩ := initVars_args mask fn.ntmps 0 args hn
  obtain ⟨r', rfl, hb⟩ := hk vars ha rfl
  refine ⟨cn r', hQ, ?_⟩
  have hP : PureAt P cx f args r' := pure_of (lowBs_low _ hl) fun base w μ cargs s hL =>
    quick_deep (F := ⟨fn, mask, false, none⟩) hm tys k.at_ k.ok cf ck n args hE r' hE hb base w μ cargs s hL
  intro base w μ cargs h s hL
  refine (hP base w μ cargs h s hL).mono fun v w' ⟨⟨μ1, k1, k2, k3, k4⟩, k5⟩ => ?_
  exact ⟨⟨μ1, k1.cn, k2, k3, k4⟩, k5⟩
/-- What a function returns, where nothing is said of it but a property. -/
noncomputable def someR (P : Program) (cx : Ctx) (f : FuncId) (Q : T → Prop) (args : List T) : T := Classical.epsilon fun r => Q r ∧ PureAt P cx f args r
theorem someR_spec {P : Program} {cx : Ctx} {f : FuncId} {Q : T → Prop} {args : List T} (h : ∃ r, Q r ∧ PureAt P cx f args r) : Q (someR P cx f Q args) ∧ PureAt P cx f args (someR P cx f Q args) := Classical.epsilon_spec h
/-- Some truth value. -/
def isB (r : T) : Prop := ∃ b, r = .bool b
theorem leaveKeep_some (low0 : Nat) (r : T) (h : H) : leaveKeep low0 r h = some (r, ⟨h.size, if h.low < low0 then h.low else low0, h.boxes⟩) := by
  obtain ⟨size, low, boxes⟩ := h
  show @Bool.rec (fun _ => Option (T × H)) (some (r, ⟨size, low0, boxes⟩)) (some (r, ⟨size, low, boxes⟩)) (Nat.blt low low0) = _
  by_cases hl : low < low0
  · rw [show Nat.blt low low0 = true by rw [Nat.blt_eq]; exact hl, if_pos hl]
  · rw [show Nat.blt low low0 = false by rw [Bool.eq_false_iff]; intro k; rw [Nat.blt_eq] at k; exact hl k, if_neg hl]
/-- The results stay as they are. -/
theorem leave_keep (h h' : H) (l : List T) {post : T → H → Prop} (hp : ∀ h'', (∀ b, h''.get b = h'.get b) → h''.size = h'.size → (Hp h' → Hp h'') → post (oneOrTuple l) h'') : Left0 true h l h' post :=
  ⟨_, _, leaveKeep_some h.low (oneOrTuple l) h', .inl (hp _ (fun b => H.get_relow h' _ b) rfl id)⟩
theorem get_drop {h : H} (hw : Hp h) {n low : Nat} (hn : n ≤ h.size) {b : Nat} (hb : b < n) : (⟨n, low, h.boxes.drop (h.size - n)⟩ : H).get b = h.get b := by
  rw [H.get_eq, H.get_eq]
  simp only
  rw [if_pos hb, if_pos (by omega), List.getElem?_drop]
  congr 1; omega
/-- Nothing that the results hold leads to a box of the call's. -/
theorem leave_same (h h' : H) (l : List T) {post : T → H → Prop} (hw : Hp h') (hs : h.size ≤ h'.size) (hf : freezeTop h' h.size (oneOrTuple l) = some (oneOrTuple l))
    (hp : ∀ h'', (∀ b, b < h.size → h''.get b = h'.get b) → h.size ≤ h''.size → Hp h'' → post (oneOrTuple l) h'') : Left0 false h l h' post := by
  unfold Left0 leave
  simp only [hf]
  have keep : ∃ r h'', leaveKeep h.low (oneOrTuple l) h' = some (r, h'') ∧ (post r h'' ∨ post (cn r) h'') :=
    ⟨_, _, leaveKeep_some h.low (oneOrTuple l) h', .inl (hp _ (fun b _ => H.get_relow h' _ b) hs hw)⟩
  have cut : ∀ low, post (oneOrTuple l) ⟨h.size, low, h'.boxes.drop (h'.size - h.size)⟩ := fun low =>
    hp _ (fun b hb => get_drop hw hs hb) (Nat.le_refl _) (by unfold Hp at *; simp; omega)
  obtain ⟨size, low, boxes⟩ := h'
  unfold leaveCut
  simp only
  rw [dropN_eq, if_pos (by show size - h.size ≤ boxes.length; unfold Hp at hw; simp only at hw; omega), bnd_some]
  cases Nat.ble h.size low with
  | true => exact ⟨_, _, rfl, .inl (cut h.low)⟩
  | false =>
    simp only
    cases boxesBelow h.size (Nat.sub h.size low) (List.drop (Nat.sub size h.size) boxes) with
    | false => exact keep
    | true =>
      simp only
      cases Nat.blt low h.low with
      | true => exact ⟨_, _, rfl, .inl (cut low)⟩
      | false => exact ⟨_, _, rfl, .inl (cut h.low)⟩
/-- Nothing that was there is changed: the results are frozen. -/
theorem leave_froze (h h' : H) (l : List T) {r : T} {post : T → H → Prop} (hw : Hp h) (fr : Fr h.size (hr h) h') (hf : (bnd (freezeTop h' h.size (oneOrTuple l)) fun v => some (cn v)) = some r) (hp : post r h) : Left0 false h l h' post := by
  obtain ⟨r', hf, hc⟩ := bnd_eq_some.1 hf
  simp only [Option.some.injEq] at hc
  unfold Left0 leave
  simp only [hf]
  have hw' : Hp h' := fr.hp (by simpa using hw)
  have hlow : h.size ≤ h'.low := fr.low (Nat.le_refl _)
  have hsz : h.size ≤ h'.size := fr.size
  have hbx : h'.boxes.drop (h'.size - h.size) = h.boxes := by
    apply List.ext_getElem?
    intro i
    rw [List.getElem?_drop]
    rcases Nat.lt_or_ge i h.size with hi | hi
    · have h1 := fr.get (h.size - 1 - i) (by omega)
      rw [hr_get, H.get_eq, H.get_eq, if_pos (by omega), if_pos (by omega)] at h1
      rw [show h'.size - h.size + i = h'.size - 1 - (h.size - 1 - i) by omega, h1]
      congr 1; omega
    · rw [List.getElem?_eq_none (by unfold Hp at hw'; omega), List.getElem?_eq_none (by unfold Hp at hw; omega)]
  obtain ⟨size', low', boxes'⟩ := h'
  unfold leaveCut
  simp only
  rw [dropN_eq, if_pos (by show size' - h.size ≤ boxes'.length; unfold Hp at hw'; simp only at hw'; omega), bnd_some, show Nat.ble h.size low' = true from Nat.ble_eq_true_of_le hlow]
  refine ⟨r', _, rfl, .inr ?_⟩
  rw [hc]
  have : (⟨h.size, h.low, List.drop (Nat.sub size' h.size) boxes'⟩ : H) = h := by
    have hbx : List.drop (Nat.sub size' h.size) boxes' = h.boxes := hbx
    rw [hbx]
  rw [this]; exact hp
end Go.TI

/- Walks: maps that are sets of strings; ranging over strings. -/
namespace Go.TI
set_option linter.unusedVariables false
set_option linter.unusedSimpArgs false
noncomputable section
variable {cx : Ctx} {mask : Nat} {e : Env} {h : H}
def mmK (ty : Ty) (h : H) : Option Did := match ty.u with | .map _ _ => some (.val (.map h.size) (h.cons ⟨0, 0, 0, true, true, []⟩)) | _ => none
@[simp] theorem mmK_map (ty : Ty) (a b : TypeId) (hu : ty.u = .map a b) : mmK ty h = some (.val (.map h.size) (h.cons ⟨0, 0, 0, true, true, []⟩)) := by unfold mmK; rw [hu]
@[simp] theorem oH_makeMap (t : TypeId) : opH (.makeMap t none) cx mask e h = bnd (cx.ty t) fun ty => mmK ty h := by
  show (bnd (cx.ty t) fun ty => (match ty.u with
    | .map _ _ => valNew (h.new (fun b => .map b) ⟨0, 0, 0, true, true, []⟩)
    | _ => none)) = _
  rfl
/-- The entries of a map that is a set. -/
def setE (l : List (List Nat)) : List T := l.map fun s => .tuple [.str s, .bool true]
theorem findEnt_set (s : List Nat) : ∀ (l : List (List Nat)) (i : Nat), ∃ j, findEnt .str (.str s) (setE l) i = some (if s ∈ l then some (j, .bool true) else none) := by
  intro l
  induction l with
  | nil => intro i; exact ⟨0, rfl⟩
  | cons a l ih =>
    intro i
    obtain ⟨j, hj⟩ := ih (i + 1)
    have h0 : findEnt .str (.str s) (setE (a :: l)) i = bnd (eqCell .str (.str s) (.str a)) fun t => @Bool.rec (fun _ => Option (Option (Nat × T))) (bnd (normNat (Nat.succ i)) fun i' => findEnt .str (.str s) (setE l) i') (some (some (i, .bool true))) t := rfl
    have h1 : eqCell .str (.str s) (.str a) = some (decide (s = a)) := by
      show some (eqL s a) = _
      rw [eqL_dec]
    rw [h0, h1, bnd_some]
    by_cases hs : s = a
    · subst hs; exact ⟨i, by simp⟩
    · refine ⟨j, ?_⟩
      simp only [hs, decide_false, normNat_eq, bnd_some, List.mem_cons, false_or]
      exact hj
def luK (cx : Ctx) (h : H) (ty : Ty) (x k : T) (ok : Bool) : Option Did := match ty.u with
  | .map kt et => bnd (cx.ty kt) fun tk => bnd (cx.ty et) fun te => chk (keyOk tk.u k)
      (bnd (h.entries x) fun es => bnd (findEnt tk.u k es 0) fun r => Option.casesOn r
        (Bool.casesOn ok (val h (some te.zeroT)) (val h (some (.tuple [te.zeroT, .bool false]))))
        fun p => two p fun _ v => Bool.casesOn ok (val h (some v)) (val h (some (.tuple [v, .bool true]))))
  | _ => none
@[simp] theorem oH_lookup (t : TypeId) (x ix : Operand) (ok : Bool) : opH (.lookup t x ix ok) cx mask e h = bnd (cx.ty t) fun ty => bnd (opnd cx mask e x) fun x => bnd (opnd cx mask e ix) fun k => luK cx h ty x k ok := by
  show hLookup t x ix ok cx mask e h = _
  unfold hLookup luK
  congr 1; funext ty
  cases ty.u with
  | map kt et =>
    simp only
    cases cx.ty kt <;> cases cx.ty et <;> cases opnd cx mask e x <;> cases opnd cx mask e ix <;> simp
  | _ => simp only; cases opnd cx mask e x <;> cases opnd cx mask e ix <;> simp
theorem luK_set {ty tk te : Ty} {kt et : TypeId} (hu : ty.u = .map kt et) (h1 : cx.ty kt = some tk) (h2 : cx.ty et = some te) (hk : tk.u = .str) (hz : te.zeroT = .bool false) {b ver : Nat} {l : List (List Nat)} (hg : h.get b = some ⟨0, 0, ver, true, true, setE l⟩) (s : List Nat) :
    luK cx h ty (.map b) (.str s) false = some (.val (.bool (decide (s ∈ l))) h) := by
  unfold luK
  rw [hu]
  simp only [h1, h2, bnd_some, hk]
  have he : h.entries (.map b) = some (setE l) := by
    show (bnd (h.get b) fun bx => _) = _
    rw [hg]; rfl
  rw [he, bnd_some]
  obtain ⟨j, hj⟩ := findEnt_set s l 0
  rw [hj, bnd_some, show keyOk .str (.str s) = true from rfl, chk_true]
  by_cases hs : s ∈ l
  · simp only [if_pos hs, hs, decide_true]; rfl
  · simp only [if_neg hs, hs, decide_false, hz]; rfl
def muK (cx : Ctx) (h : H) (ty : Ty) (m k v : T) : Option Did := match ty.u with
  | .map kt _ => bnd (cx.ty kt) fun tk => chk (keyAny cx tk.u k) (chk v.good
      (match m with
      | .map b => bnd (h.get b) fun bx => Box.casesOn bx fun sz ep ver exact it es => chk it (bnd (findAny cx tk.u k es 0) fun r => bnd (normNat (Nat.succ ver)) fun ver' => Option.casesOn r
          (bnd (appN es [.tuple [k, v]]) fun es' => bnd (h.put b ⟨sz, ep, ver', exact, true, es'⟩) fun h' => some (.val .undef h'))
          fun p => two p fun i _ => bnd (setNth es i (.tuple [k, v])) fun es' => bnd (h.put b ⟨sz, ep, ver', exact, true, es'⟩) fun h' => some (.val .undef h'))
      | _ => none))
  | _ => none
@[simp] theorem oH_mapUpdate (t : TypeId) (m ix x : Operand) : opH (.mapUpdate t m ix x) cx mask e h = bnd (cx.ty t) fun ty => bnd (opnd cx mask e m) fun m => bnd (opnd cx mask e ix) fun k => bnd (opnd cx mask e x) fun v => muK cx h ty m k v := by
  show hMapUpdate t m ix x cx mask e h = _
  unfold hMapUpdate muK
  congr 1; funext ty
  cases ty.u with
  | map kt et =>
    simp only
    cases cx.ty kt <;> cases opnd cx mask e m <;> cases opnd cx mask e ix <;> cases opnd cx mask e x <;> simp
    rename_i v1 v2 v3
    cases v1 <;> rfl
  | _ => simp only; cases opnd cx mask e m <;> cases opnd cx mask e ix <;> cases opnd cx mask e x <;> simp
theorem muK_set {ty tk : Ty} {kt et : TypeId} (hu : ty.u = .map kt et) (h1 : cx.ty kt = some tk) (hk : tk.u = .str) {b ver : Nat} {l : List (List Nat)} (hg : h.get b = some ⟨0, 0, ver, true, true, setE l⟩) {s : List Nat} (hs : s ∉ l) :
    muK cx h ty (.map b) (.str s) (.bool true) = some (.val .undef (putB h b ⟨0, 0, ver + 1, true, true, setE (l ++ [s])⟩)) := by
  unfold muK
  rw [hu]
  simp only [h1, bnd_some, hk]
  have hka : keyAny cx .str (.str s) = true := rfl
  rw [hka, chk_true, show (T.bool true).good = true from rfl, chk_true, hg]
  simp only [bnd_some, chk_true]
  obtain ⟨j, hj⟩ := findEnt_set s l 0
  have hfa : findAny cx .str (.str s) (setE l) 0 = findEnt .str (.str s) (setE l) 0 := rfl
  rw [hfa, hj, bnd_some, if_neg hs]
  simp only [normNat_eq, bnd_some, appN_eq, put_some hg]
  unfold setE
  rw [List.map_append]; rfl
/-! ranging over a string -/
def rsK (ty : Ty) (h : H) (x : T) : Option Did := match ty.u with
  | .str => (match x with | .str s => some (.val (.iter h.size) (h.cons ⟨1, 0, 0, true, true, [.str s, .int .i64 0]⟩)) | _ => none)
  | _ => none
@[simp] theorem rsK_str (ty : Ty) (s : List Nat) (hu : ty.u = .str) : rsK ty h (.str s) = some (.val (.iter h.size) (h.cons ⟨1, 0, 0, true, true, [.str s, .int .i64 0]⟩)) := by unfold rsK; rw [hu]
theorem oH_rangeS (t : TypeId) (ty : Ty) (x : Operand) (ht : cx.ty t = some ty) (hu : ty.u = .str) : opH (.range t x) cx mask e h = bnd (opnd cx mask e x) fun x => rsK ty h x := by
  show hRangeAt t x cx mask e h = _
  unfold hRangeAt
  rw [ht, bnd_some, hu]
  show hRange x cx mask e h = _
  unfold hRange rsK
  rw [hu]
  rfl
def nsK (h : H) (v : T) : Option Did := match v with
  | .iter b => bnd (h.get b) fun x => chk x.it (match x.elems with
    | [.str s, .int _ (.ofNat pos)] => if pos < s.length then
        (bnd (nextChar s pos) fun q => two q fun c wd => some (.val (.tuple [.bool true, .int .i64 (.ofNat pos), .int .i32 (.ofNat c)]) (putB h b ⟨x.sz, x.ep, x.ver + 1, x.exact, true, [.str s, .int .i64 (.ofNat (pos + wd))]⟩))) else some (.val (.tuple [.bool false]) h)
    | _ => none)
  | _ => none
@[simp] theorem oH_nextS (x : Operand) : opH (.next x true) cx mask e h = bnd (opnd cx mask e x) fun v => nsK h v := by
  show hNextS x cx mask e h = _
  unfold hNextS nsK
  congr 1; funext v
  cases v <;> first | rfl | skip
  rename_i b
  simp only
  cases hg : h.get b with
  | none => rfl
  | some x =>
    simp only [bnd_some]
    congr 1
    split
    · rename_i s k pos hel
      rw [lenN_eq, hel]
      simp only
      by_cases hp : pos < s.length
      · rw [if_pos hp, show Nat.blt pos s.length = true by rw [Nat.blt_eq]; exact hp]
        simp only
        congr 1; funext q
        obtain ⟨c, wd⟩ := q
        simp only [two_mk, normNat_eq, bnd_some, put_some hg]
        rfl
      · rw [if_neg hp, show Nat.blt pos s.length = false by rw [Bool.eq_false_iff]; intro k; rw [Nat.blt_eq] at k; exact hp k]
    · rename_i hne
      split
      · rename_i s k pos hel; exact absurd hel (hne s k pos)
      · rfl
theorem nextChar_lo {s : List Nat} {pos c : Nat} (hc : s[pos]? = some c) (h1 : c < 128) : nextChar s pos = some (c, 1) := by
  unfold nextChar
  rw [nthD_eq, hc, bnd_some, show Nat.blt c 128 = true by rw [Nat.blt_eq]; exact h1]
theorem nextChar_hi {s : List Nat} {pos c : Nat} (hc : s[pos]? = some c) (h1 : ¬ c < 128) : ∃ r wd, 128 ≤ r ∧ nextChar s pos = some (r, wd) := by
  unfold nextChar
  rw [nthD_eq, hc, bnd_some, show Nat.blt c 128 = false by rw [Bool.eq_false_iff]; intro k; rw [Nat.blt_eq] at k; exact h1 k]
  simp only
  cases hb : Nat.blt c 256 with
  | false => exact ⟨65533, 1, by omega, rfl⟩
  | true =>
    rw [Nat.blt_eq] at hb
    refine ⟨(Utf8.decode ⟨(s.map UInt8.ofNat).toArray⟩ pos).1, (Utf8.decode ⟨(s.map UInt8.ofNat).toArray⟩ pos).2, ?_, rfl⟩
    have hpl : pos < s.length := by
      rcases Nat.lt_or_ge pos s.length with h | h
      · exact h
      · rw [List.getElem?_eq_none h] at hc; simp at hc
    have hg : (ByteArray.get! ⟨(s.map UInt8.ofNat).toArray⟩ pos) = UInt8.ofNat c := by
      show (s.map UInt8.ofNat).toArray[pos]! = _
      rw [getElem!_pos _ pos (by simpa using hpl)]
      simp only [List.getElem_toArray, List.getElem_map]
      have : s[pos] = c := by rw [List.getElem?_eq_getElem hpl] at hc; simpa using hc
      rw [this]
    unfold Utf8.decode
    simp only [Nat.add_zero, hg, toNat_ofNat_lt hb, Utf8.runeError]
    rw [if_neg (by omega)]
    repeat' split
    all_goals (simp only [ge_iff_le, Bool.and_eq_true, decide_eq_true_eq] at *; omega)
theorem nsK_lo {b ver pos c : Nat} {s : List Nat} (hg : h.get b = some ⟨1, 0, ver, true, true, [.str s, .int .i64 (.ofNat pos)]⟩) (hc : s[pos]? = some c) (h1 : c < 128) :
    nsK h (.iter b) = some (.val (.tuple [.bool true, .int .i64 pos, .int .i32 c]) (putB h b ⟨1, 0, ver + 1, true, true, [.str s, .int .i64 (.ofNat (pos + 1))]⟩)) := by
  have hpl : pos < s.length := by
    rcases Nat.lt_or_ge pos s.length with h | h
    · exact h
    · rw [List.getElem?_eq_none h] at hc; simp at hc
  unfold nsK
  simp only [hg, bnd_some, chk_true, hpl, if_true, nextChar_lo hc h1, two_mk]
  rfl
theorem nsK_hi {b ver pos c : Nat} {s : List Nat} (hg : h.get b = some ⟨1, 0, ver, true, true, [.str s, .int .i64 (.ofNat pos)]⟩) (hc : s[pos]? = some c) (h1 : ¬ c < 128) :
    ∃ r wd : Nat, 128 ≤ r ∧ nsK h (.iter b) = some (.val (.tuple [.bool true, .int .i64 pos, .int .i32 r]) (putB h b ⟨1, 0, ver + 1, true, true, [.str s, .int .i64 (.ofNat (pos + wd))]⟩)) := by
  have hpl : pos < s.length := by
    rcases Nat.lt_or_ge pos s.length with h | h
    · exact h
    · rw [List.getElem?_eq_none h] at hc; simp at hc
  obtain ⟨r, wd, hr, hn⟩ := nextChar_hi hc h1
  refine ⟨r, wd, hr, ?_⟩
  unfold nsK
  simp only [hg, bnd_some, chk_true, hpl, if_true, hn, two_mk]
  rfl
theorem nsK_end {b ver pos : Nat} {s : List Nat} (hg : h.get b = some ⟨1, 0, ver, true, true, [.str s, .int .i64 (.ofNat pos)]⟩) (hp : s.length ≤ pos) : nsK h (.iter b) = some (.val (.tuple [.bool false]) h) := by
  unfold nsK
  simp only [hg, bnd_some, chk_true, show ¬ pos < s.length by omega, if_false]
end
end Go.TI

/- Arguments: whatever is read of plain data stands for a value of the interpreter's. -/
namespace Go.TI
set_option linter.unusedVariables false
set_option linter.unusedSimpArgs false
theorem noMu_in (i : Nat) : ¬ InMu noMu i := by
  rintro (⟨b, L, hb, _⟩ | hr)
  · simp [noMu] at hb
  · exact hr
/-- What the reading of a type's cells finds are the cells of a value of which Q holds. -/
def Rd (P : Program) (t n : Nat) (Q : List T → Prop) : Prop := P.cellsOf t = n ∧ ∀ (H : Type) (enc : TypeId × Value → H) (w : World) (base : Nat) (spare : Nat → Bool) (held : Bool) (fuel : Nat) (cs : List Value) (d : DataW H) (p : List MemPlace),
  DataW.trod enc P w base spare held fuel t cs = some (d, p) → (∀ x ∈ d.weights P t, x ≤ reachBytes) → ∃ ts, RelL w.heap noMu ts cs ∧ (∀ v ∈ ts, Shut v) ∧ ts.length = n ∧ Q ts
section
variable {P : Program} {t : Nat}
theorem RelL.one {hp : Array Obj} {μ : Mu} {v : T} {c : Value} (h : RelV hp μ v c) : RelL hp μ [v] [c] := RelL.cons h RelL.nil
theorem rdInt {k : IntKind} (hu : P.underlying t = some (.int k)) (hn : P.cellsOf t = 1) : Rd P t 1 fun ts => ∃ n, ts = [.int k n] ∧ k.min ≤ n ∧ n ≤ k.max := by
  refine ⟨hn, fun H enc w base spare held fuel cs d p h hw => ?_⟩
  cases fuel with
  | zero => simp [DataW.trod] at h
  | succ fuel =>
    unfold DataW.trod at h
    rw [hu] at h
    match cs, h with
    | [.int k' n], h =>
      simp only [Lit.wf, Bool.and_eq_true, decide_eq_true_eq] at h
      split at h
      · rename_i hh
        obtain ⟨rfl, h1, h2⟩ := hh
        exact ⟨[.int k' n], RelL.one (.int _ _), fun v hv => by simp at hv; subst hv; exact ⟨rfl, .int _ _⟩, rfl, n, rfl, h1, h2⟩
      · simp at h
theorem rdBool (hu : P.underlying t = some .bool) (hn : P.cellsOf t = 1) : Rd P t 1 fun ts => ∃ b, ts = [.bool b] := by
  refine ⟨hn, fun H enc w base spare held fuel cs d p h hw => ?_⟩
  cases fuel with
  | zero => simp [DataW.trod] at h
  | succ fuel =>
    unfold DataW.trod at h
    rw [hu] at h
    match cs, h with
    | [.bool b], h => exact ⟨[.bool b], RelL.one (.bool _), fun v hv => by simp at hv; subst hv; exact ⟨rfl, .bool _⟩, rfl, b, rfl⟩
theorem rdStr (hu : P.underlying t = some .string) (hn : P.cellsOf t = 1) : Rd P t 1 fun ts => ∃ s, ts = [.str s] ∧ s.length ≤ 140737488351232 := by
  refine ⟨hn, fun H enc w base spare held fuel cs d p h hw => ?_⟩
  cases fuel with
  | zero => simp [DataW.trod] at h
  | succ fuel =>
    unfold DataW.trod at h
    rw [hu] at h
    match cs, h with
    | [.string s], h =>
      simp only at h
      split at h
      · rename_i hs
        refine ⟨[.str (s.data.toList.map UInt8.toNat)], RelL.one ?_, fun v hv => by simp at hv; subst hv; exact ⟨rfl, .str _⟩, rfl, _, rfl, ?_⟩
        · have := RelV.str (hp := w.heap) (μ := noMu) (s.data.toList.map UInt8.toNat) (fun c hc => by
            obtain ⟨x, _, rfl⟩ := List.mem_map.1 hc; exact x.toNat_lt)
          rwa [bytesOf_toNat] at this
        · simp only [Option.some.injEq, Prod.mk.injEq] at h
          obtain ⟨rfl, _⟩ := h
          rw [List.length_map]
          exact hw _ (by simp [DataW.weights])
      · simp at h
/-- A row of cells as one value. -/
def mkT (ag : Bool) (ts : List T) : T := if ag = true then .agg ts else headT ts
theorem mkT_cells {ag : Bool} {ts : List T} {n : Nat} (hl : ts.length = n) (h1 : ag = false → n = 1) (hs : ∀ v ∈ ts, Shut v) : (mkT ag ts).cells = ts := by
  cases ag with
  | true => rfl
  | false =>
    have := h1 rfl
    subst this
    obtain ⟨x, rfl⟩ := List.length_eq_one_iff.1 hl
    have hx := (hs x (by simp)).1
    show T.cells x = [x]
    cases x <;> first | rfl | (simp [T.scalar] at hx)
theorem mapM_some {α β : Type} (f : α → Option β) : ∀ {l : List α} {r : List β}, l.mapM f = some r → r.length = l.length ∧ ∀ (i : Nat) x, l[i]? = some x → ∃ y, r[i]? = some y ∧ f x = some y := by
  intro l
  induction l with
  | nil => intro r h; simp at h; subst h; exact ⟨rfl, fun i x hx => by simp at hx⟩
  | cons a l ih =>
    intro r h
    rw [List.mapM_cons] at h
    cases hf : f a with
    | none => rw [hf] at h; simp at h
    | some y =>
      rw [hf] at h
      cases hm : l.mapM f with
      | none => rw [hm] at h; simp at h
      | some r' =>
        rw [hm] at h
        simp at h
        subst h
        obtain ⟨h1, h2⟩ := ih hm
        refine ⟨by simp [h1], fun i x hx => ?_⟩
        cases i with
        | zero => simp at hx; subst hx; exact ⟨y, by simp, hf⟩
        | succ i => simpa using h2 i x (by simpa using hx)
/-- The cells of memory that are read. -/
theorem cells_read {w : World} {base n : Nat} {a : Addr} {l : List Value} (h : w.cells? base a n = some l) : l.length = n ∧ ∀ i, i < n → w.cell? (a.add i) = l[i]? := by
  unfold World.cells? at h
  split at h
  · obtain ⟨h1, h2⟩ := mapM_some _ h
    refine ⟨by simpa using h1, fun i hi => ?_⟩
    obtain ⟨y, h3, h4⟩ := h2 i i (by rw [List.getElem?_range hi])
    rw [h3]; exact h4
  · simp at h
theorem cell_add {w : World} {a : Addr} {n : Nat} {v : Value} (h : w.cell? (a.add n) = some v) : ∃ arr t fz, w.heap[a.block]? = some (.cells arr t fz) ∧ arr[a.off + n]? = some v := by
  unfold World.cell? at h
  have hb : (a.add n).block = a.block := by unfold Addr.add; split <;> rfl
  have ho : (a.add n).off = a.off + n := by unfold Addr.add; split <;> simp_all
  rw [hb, ho] at h
  split at h
  · rename_i arr t fz hh
    split at h
    · simp at h
    · exact ⟨arr, t, fz, hh, h⟩
  · simp at h
theorem cell_spot {w : World} {a : Addr} {v : Value} (h : w.cell? a = some v) : a.spot = none := by
  unfold World.cell? at h
  split at h
  · split at h
    · simp at h
    · rename_i hh; simpa using hh
  · simp at h
theorem lt_pred {a b c : Nat} (h0 : 0 < b) (h : a + (b - 1) < c) : a + b ≤ c := by omega
theorem flat_mk {ag : Bool} {n : Nat} (h1 : ag = false → n = 1) : ∀ {es : List (List T)}, (∀ x ∈ es, x.length = n ∧ ∀ v ∈ x, Shut v) → (∀ v ∈ es.map (mkT ag), v.cells.length = n) ∧ flat (es.map (mkT ag)) = es.flatten := by
  intro es
  induction es with
  | nil => intro _; exact ⟨fun v hv => by simp at hv, rfl⟩
  | cons x es ih =>
    intro h
    obtain ⟨k1, k2⟩ := ih fun y hy => h y (List.mem_cons_of_mem _ hy)
    have hx := h x (by simp)
    have hc := mkT_cells hx.1 h1 hx.2
    refine ⟨fun v hv => ?_, ?_⟩
    · rcases List.mem_cons.1 (show v ∈ mkT ag x :: es.map (mkT ag) from hv) with rfl | hv
      · rw [hc]; exact hx.1
      · exact k1 v hv
    · rw [List.map_cons, flat_cons, k2, hc]; rfl
theorem rdSlice {e n b : Nat} {Q : List T → Prop} (hu : P.underlying t = some (.slice e)) (hn : P.cellsOf t = 1) (hb : P.bytesOf e = b) (he : Rd P e n Q) (hpos : 1 ≤ n) (ag : Bool) (hag : ag = false → n = 1) :
    Rd P t 1 fun ts => ∃ es : List (List T), ts = [sl (es.map (mkT ag))] ∧ es.length * b ≤ 140737488351232 ∧ ∀ x ∈ es, Q x := by
  refine ⟨hn, fun H enc w base spare held fuel cs d p h hw => ?_⟩
  have shut_sl : ∀ es : List (List T), (∀ x ∈ es, x.length = n ∧ ∀ v ∈ x, Shut v) → Shut (sl (es.map (mkT ag))) := by
    intro es hes
    cases es with
    | nil => exact ⟨rfl, .ewild⟩
    | cons x es =>
      refine ⟨rfl, .tree _ _ fun v hv => ?_⟩
      obtain ⟨y, hy, rfl⟩ := List.mem_map.1 (show v ∈ (x :: es).map (mkT ag) from hv)
      have hy' := hes y hy
      cases ag with
      | true => exact .agg _ fun v hv => (hy'.2 v hv).2
      | false =>
        obtain ⟨z, rfl⟩ := List.length_eq_one_iff.1 (hy'.1.trans (hag rfl))
        exact (hy'.2 z (by simp)).2
  cases fuel with
  | zero => simp [DataW.trod] at h
  | succ fuel =>
    unfold DataW.trod at h
    rw [hu] at h
    match cs, h with
    | [.slice none 0 0], h => exact ⟨[sl []], RelL.one (.ewild _ _), fun v hv => by simp at hv; subst hv; exact ⟨rfl, .ewild⟩, rfl, [], rfl, by simp, fun x hx => by simp at hx⟩
    | [.slice (some a) len cap], h =>
      simp only at h
      split at h
      · rename_i hh
        obtain ⟨hbb, hlc, hcm⟩ := hh
        obtain ⟨elems, hel, hrest⟩ := Option.bind_eq_some_iff.1 h
        obtain ⟨rest, _, hrest⟩ := Option.map_eq_some_iff.1 hrest
        simp only [Prod.mk.injEq] at hrest
        obtain ⟨hd, _⟩ := hrest
        obtain ⟨hl, hget⟩ := mapM_some _ hel
        have hwt : d.weights P t = ((elems.map (·.1)).length + (rest.map (·.1)).length) * P.bytesOf e :: (DataW.weightsAll P e (elems.map (·.1)) ++ DataW.weightsAll P e (rest.map (·.1))) := by
          rw [← hd, DataW.weights, hu]
        have hlen : len * b ≤ 140737488351232 := by
          have h1 := hw _ (by rw [hwt]; exact List.mem_cons_self ..)
          simp only [List.length_map, hl, List.length_range, hb] at h1
          have h2 : len * b ≤ (len + rest.length) * b := Nat.mul_le_mul_right b (by omega)
          have h3 : reachBytes = 140737488351232 := rfl
          omega
        have wAll : ∀ (l : List (DataW H)) (y : DataW H), y ∈ l → ∀ x ∈ y.weights P e, x ∈ DataW.weightsAll P e l := by
          intro l
          induction l with
          | nil => intro y hy; simp at hy
          | cons a l ih =>
            intro y hy x hx
            rw [DataW.weightsAll]
            rcases List.mem_cons.1 hy with rfl | hy
            · exact List.mem_append_left _ hx
            · exact List.mem_append_right _ (ih y hy x hx)
        have key : ∀ i, i < len → ∃ ts : List T, ∃ l, w.cells? base (a.add (i * n)) n = some l ∧ RelL w.heap noMu ts l ∧ (∀ v ∈ ts, Shut v) ∧ ts.length = n ∧ Q ts := by
          intro i hi
          obtain ⟨y, hy, hf⟩ := hget i i (by rw [List.getElem?_range hi])
          obtain ⟨l, hl1, hl2⟩ := Option.bind_eq_some_iff.1 hf
          obtain ⟨d', p'⟩ := y
          rw [he.1] at hl1
          obtain ⟨ts, h1, h2, h3, h4⟩ := he.2 H enc w base spare held fuel l d' p' hl2 fun x hx => hw x (by
            rw [hwt]
            exact List.mem_cons_of_mem _ (List.mem_append_left _ (wAll _ d' (List.mem_map.2 ⟨(d', p'), List.mem_of_getElem? hy, rfl⟩) x hx)))
          exact ⟨ts, l, hl1, h1, h2, h3, h4⟩
        have build : ∀ m, m ≤ len → ∃ es : List (List T), es.length = m ∧ ∀ i x, es[i]? = some x → ∃ l, w.cells? base (a.add (i * n)) n = some l ∧ RelL w.heap noMu x l ∧ (∀ v ∈ x, Shut v) ∧ x.length = n ∧ Q x := by
          intro m
          induction m with
          | zero => intro _; exact ⟨[], rfl, fun i x hx => by simp at hx⟩
          | succ m ih =>
            intro hm
            obtain ⟨es, k1, k2⟩ := ih (by omega)
            obtain ⟨ts, l, k3⟩ := key m (by omega)
            refine ⟨es ++ [ts], by simp [k1], fun i x hx => ?_⟩
            rcases Nat.lt_or_ge i m with hi | hi
            · rw [List.getElem?_append_left (by omega)] at hx; exact k2 i x hx
            · have : i = m := by
                rcases Nat.lt_or_ge m i with h | h
                · rw [List.getElem?_eq_none (by simp [k1]; omega)] at hx; simp at hx
                · omega
              subst this
              rw [List.getElem?_append_right (by omega), k1] at hx
              simp at hx; subst hx
              exact ⟨l, k3⟩
        obtain ⟨es, k1, k2⟩ := build len (Nat.le_refl _)
        have hes : ∀ x ∈ es, x.length = n ∧ ∀ v ∈ x, Shut v := fun x hx => by
          obtain ⟨i, hi⟩ := List.getElem?_of_mem hx
          obtain ⟨l, _, _, h2, h3, _⟩ := k2 i x hi
          exact ⟨h3, h2⟩
        have hQ : ∀ x ∈ es, Q x := fun x hx => by
          obtain ⟨i, hi⟩ := List.getElem?_of_mem hx
          obtain ⟨l, _, _, h2, h3, h4⟩ := k2 i x hi
          exact h4
        refine ⟨[sl (es.map (mkT ag))], RelL.one ?_, fun v hv => by simp at hv; subst hv; exact shut_sl es hes, rfl, es, rfl, ?_, hQ⟩
        · cases es with
          | nil =>
            simp at k1; subst k1
            exact .ewild _ _
          | cons x0 es0 =>
            obtain ⟨f1, f2⟩ := flat_mk (ag := ag) hag hes
            obtain ⟨l0, c0, r0, s0, n0, _⟩ := k2 0 x0 rfl
            have hc0 := cells_read c0
            rw [Nat.zero_mul, show a.add 0 = a by simp [Addr.add]] at hc0
            have hv0 := hc0.2 0 (by omega)
            have hl0 : 0 < l0.length := by omega
            rw [show a.add 0 = a by simp [Addr.add], List.getElem?_eq_getElem hl0] at hv0
            have hsp := cell_spot hv0
            obtain ⟨arr, ty, fz, hh, _⟩ := cell_add (w := w) (a := a) (n := 0) (by rw [show a.add 0 = a by simp [Addr.add]]; exact hv0)
            obtain ⟨blk, off, spot⟩ := a
            simp only at hsp hh
            subst hsp
            have cell : ∀ i x j v, (x0 :: es0)[i]? = some x → x[j]? = some v → ∃ c, arr[off + (i * n + j)]? = some c ∧ RelV w.heap noMu v c := by
              intro i x j v hx hv
              obtain ⟨l, c1, r1, s1, n1, _⟩ := k2 i x hx
              have hc1 := cells_read c1
              have hj : j < n := by
                rcases Nat.lt_or_ge j n with h | h
                · exact h
                · rw [List.getElem?_eq_none (by omega)] at hv; simp at hv
              have hlj : j < l.length := by omega
              have h1 := hc1.2 j hj
              rw [List.getElem?_eq_getElem hlj] at h1
              have e1 : ((⟨blk, off, none⟩ : Addr).add (i * n)).add j = (⟨blk, off, none⟩ : Addr).add (i * n + j) := by
                unfold Addr.add
                by_cases q1 : i * n = 0
                · simp [q1]
                · by_cases q2 : j = 0
                  · subst q2; simp [q1]
                  · simp [q1, q2, Nat.add_assoc]
              rw [e1] at h1
              obtain ⟨arr', t', fz', g1, g2⟩ := cell_add h1
              rw [show w.heap[blk]? = some (.cells arr ty fz) from hh] at g1
              simp only [Option.some.injEq, Obj.cells.injEq] at g1
              obtain ⟨rfl, _, _⟩ := g1
              refine ⟨_, g2, ?_⟩
              have := r1.2 j v hv
              rw [List.getD_eq_getElem?_getD, List.getElem?_eq_getElem hlj] at this
              exact this
            have flatat : ∀ k v, (flat ((x0 :: es0).map (mkT ag)))[k]? = some v → ∃ c, arr[off + k]? = some c ∧ RelV w.heap noMu v c ∧ Shut v := by
              intro k v hk
              have hkl : k < ((x0 :: es0).map (mkT ag)).length * n := by
                rw [← flat_length f1]
                rcases Nat.lt_or_ge k (flat ((x0 :: es0).map (mkT ag))).length with h | h
                · exact h
                · rw [List.getElem?_eq_none h] at hk; simp at hk
              have hi : k / n < (x0 :: es0).length := by
                rw [Nat.div_lt_iff_lt_mul (by omega)]; simpa using hkl
              have hx : (x0 :: es0)[k / n]? = some (x0 :: es0)[k / n] := List.getElem?_eq_getElem hi
              have hxm := hes _ (List.getElem_mem hi)
              have hj : k % n < ((x0 :: es0)[k / n]).length := by rw [hxm.1]; exact Nat.mod_lt _ (by omega)
              have hz : ((x0 :: es0)[k / n])[k % n]? = some ((x0 :: es0)[k / n])[k % n] := List.getElem?_eq_getElem hj
              have hfl := flat_get (es := (x0 :: es0).map (mkT ag)) f1 (i := k / n) (k := k % n) (v := mkT ag (x0 :: es0)[k / n]) (z := ((x0 :: es0)[k / n])[k % n]) (by rw [List.getElem?_map, hx]; rfl) (by rw [mkT_cells hxm.1 hag hxm.2]; exact hz)
              have hkk : k / n * n + k % n = k := by rw [Nat.mul_comm]; exact Nat.div_add_mod k n
              rw [hkk] at hfl
              rw [hfl] at hk
              simp only [Option.some.injEq] at hk
              obtain ⟨c, g1, g2⟩ := cell _ _ _ _ hx hz
              rw [hkk] at g1
              exact ⟨c, g1, hk ▸ g2, hk ▸ hxm.2 _ (List.getElem_mem hj)⟩
            have hlen : es0.length + 1 = len := by simpa using k1
            subst hlen
            show RelV w.heap noMu (.tree (mkT ag x0 :: es0.map (mkT ag)) false) _
            have := RelV.tree (hp := w.heap) (μ := noMu) (mkT ag x0) (es0.map (mkT ag)) false blk off cap n arr ty fz (noMu_in _) hh (by simpa using hlc) (by simp) f1 ?_ ?_ ?_
            · simpa using this
            · show off + (flat ((x0 :: es0).map (mkT ag))).length ≤ arr.size
              have h0 : 0 < (flat ((x0 :: es0).map (mkT ag))).length := by rw [flat_length f1]; exact Nat.mul_pos (by simp) (by omega)
              obtain ⟨c, g1, _⟩ := flatat ((flat ((x0 :: es0).map (mkT ag))).length - 1) _ (List.getElem?_eq_getElem (by omega))
              have g2 : off + ((flat ((x0 :: es0).map (mkT ag))).length - 1) < arr.size := by
                rcases Nat.lt_or_ge (off + ((flat ((x0 :: es0).map (mkT ag))).length - 1)) arr.size with h9 | h9
                · exact h9
                · rw [Array.getElem?_eq_none h9] at g1; simp at g1
              exact lt_pred h0 g2
            · intro v hv
              obtain ⟨i, hi⟩ := List.getElem?_of_mem hv
              obtain ⟨_, _, _, g⟩ := flatat i v hi
              exact g
            · intro k v hk
              obtain ⟨c, g1, g2, _⟩ := flatat k v hk
              rw [Array.getD_eq_getD_getElem?, g1]; exact g2
        · rw [k1]; exact hlen
      · simp at h
/-- The fields of a struct: where each begins, its type, how many cells it has, what holds of them. -/
inductive RdF (P : Program) : List Field → Nat → List (List T → Prop) → Prop where
  | nil (o : Nat) : RdF P [] o []
  | cons (f : Field) (fs : List Field) (o n : Nat) (Q : List T → Prop) (Qs : List (List T → Prop)) (ho : f.offset = o) (h : Rd P f.type n Q) (r : RdF P fs (o + n) Qs) : RdF P (f :: fs) o (Q :: Qs)
/-- The same, by places and types. -/
inductive RdP (P : Program) : List (Nat × TypeId) → Nat → List (List T → Prop) → Prop where
  | nil (o : Nat) : RdP P [] o []
  | cons (o t : Nat) (ps : List (Nat × TypeId)) (o' n : Nat) (Q : List T → Prop) (Qs : List (List T → Prop)) (ho : o = o') (h : Rd P t n Q) (r : RdP P ps (o' + n) Qs) : RdP P ((o, t) :: ps) o' (Q :: Qs)
/-- A row of cells, cut by the fields. -/
inductive Cut : List (List T → Prop) → List T → Prop where
  | nil : Cut [] []
  | cons (Q : List T → Prop) (Qs : List (List T → Prop)) (a b : List T) (h : Q a) (r : Cut Qs b) : Cut (Q :: Qs) (a ++ b)
theorem rdFields {H : Type} {enc : TypeId × Value → H} {w : World} {base : Nat} {spare : Nat → Bool} {held : Bool} {fuel : Nat} {cs : List Value} : ∀ {fs : List Field} {o : Nat} {Qs : List (List T → Prop)}, RdF P fs o Qs → ∀ {xs : List (DataW H × List MemPlace)}, o ≤ cs.length →
    (fs.mapM fun f => DataW.trod enc P w base spare held fuel f.type ((cs.drop f.offset).take (P.cellsOf f.type))) = some xs → (∀ x ∈ DataW.weightsEach P (fs.map (·.type)) (xs.map (·.1)), x ≤ reachBytes) → ∃ ts : List T, ∃ m, RelL w.heap noMu ts ((cs.drop o).take m) ∧ (∀ v ∈ ts, Shut v) ∧ ts.length = m ∧ Cut Qs ts := by
  intro fs o Qs hF
  induction hF with
  | nil o => intro xs ho h _; exact ⟨[], 0, by simpa using RelL.nil, fun v hv => by simp at hv, rfl, .nil⟩
  | cons f fs o n Q Qs ho h r ih =>
    intro xs hol hm hw
    rw [List.mapM_cons] at hm
    cases hf : DataW.trod enc P w base spare held fuel f.type ((cs.drop f.offset).take (P.cellsOf f.type)) with
    | none => rw [hf] at hm; simp at hm
    | some y =>
      rw [hf] at hm
      cases hr : (fs.mapM fun f => DataW.trod enc P w base spare held fuel f.type ((cs.drop f.offset).take (P.cellsOf f.type))) with
      | none => rw [hr] at hm; simp at hm
      | some xs' =>
        rw [hr] at hm
        simp at hm
        subst hm
        rw [h.1, ho] at hf
        have hw' : ∀ x ∈ y.1.weights P f.type ++ DataW.weightsEach P (fs.map (·.type)) (xs'.map (·.1)), x ≤ reachBytes := by
          intro x hx; exact hw x (by simpa [DataW.weightsEach] using hx)
        obtain ⟨ts, h1, h2, h3, h4⟩ := h.2 H enc w base spare held fuel _ y.1 y.2 hf fun x hx => hw' x (List.mem_append_left _ hx)
        have hlen : o + n ≤ cs.length := by
          have := h1.1
          rw [h3, List.length_take, List.length_drop] at this
          omega
        obtain ⟨ts', m, k1, k2, k3, k4⟩ := ih hlen hr fun x hx => hw' x (List.mem_append_right _ hx)
        refine ⟨ts ++ ts', n + m, ?_, fun v hv => ?_, by simp [h3, k3], .cons _ _ _ _ h4 k4⟩
        · have := RelL.append h1 k1
          rwa [show (cs.drop o).take n ++ (cs.drop (o + n)).take m = (cs.drop o).take (n + m) by rw [List.take_add, List.drop_drop]] at this
        · rcases List.mem_append.1 hv with hv | hv
          · exact h2 v hv
          · exact k2 v hv
theorem rdStruct {fs : Array Field} {n : Nat} {Qs : List (List T → Prop)} (hu : P.underlying t = some (.struct fs)) (hn : P.cellsOf t = n) (hF : RdF P fs.toList 0 Qs) (hc : ∀ ts, Cut Qs ts → ts.length = n) : Rd P t n fun ts => Cut Qs ts := by
  refine ⟨hn, fun H enc w base spare held fuel cs d p h hw => ?_⟩
  cases fuel with
  | zero => simp [DataW.trod] at h
  | succ fuel =>
    unfold DataW.trod at h
    rw [hu] at h
    simp only at h
    split at h
    · rename_i hl
      obtain ⟨xs, hx, hd⟩ := Option.map_eq_some_iff.1 h
      simp only [Prod.mk.injEq] at hd
      obtain ⟨hd, _⟩ := hd
      obtain ⟨ts, m, h1, h2, h3, h4⟩ := rdFields hF (Nat.zero_le _) hx fun x hxx => hw x (by
        rw [← hd, DataW.weights, hu]; exact hxx)
      have h5 := hc ts h4
      refine ⟨ts, ?_, h2, h5, h4⟩
      rw [List.drop_zero, List.take_of_length_le (by rw [hl, hn]; omega)] at h1
      exact h1
    · simp at h
theorem Rd.imp {n : Nat} {Q Q' : List T → Prop} (h : Rd P t n Q) (hq : ∀ ts, Q ts → Q' ts) : Rd P t n Q' := ⟨h.1, fun H enc w base spare held fuel cs d p hd hw => by
  obtain ⟨ts, h1, h2, h3, h4⟩ := h.2 H enc w base spare held fuel cs d p hd hw
  exact ⟨ts, h1, h2, h3, hq ts h4⟩⟩
/-- A struct's cells, as its value's. -/
theorem Cut.nilInv {ts : List T} (h : Cut [] ts) : ts = [] := by cases h; rfl
theorem Cut.inv {Q : List T → Prop} {Qs : List (List T → Prop)} {ts : List T} (h : Cut (Q :: Qs) ts) : ∃ a b, ts = a ++ b ∧ Q a ∧ Cut Qs b := by
  cases h with | cons _ _ a b h r => exact ⟨a, b, rfl, h, r⟩
theorem pick_all {α β : Type} {f : α → β} {p : α → Prop} : ∀ {l : List β}, (∀ y ∈ l, ∃ x, y = f x ∧ p x) → ∃ l' : List α, l = l'.map f ∧ ∀ x ∈ l', p x := by
  intro l
  induction l with
  | nil => intro _; exact ⟨[], rfl, fun x hx => by simp at hx⟩
  | cons y l ih =>
    intro h
    obtain ⟨x, rfl, hx⟩ := h y (by simp)
    obtain ⟨l', rfl, hl'⟩ := ih fun z hz => h z (List.mem_cons_of_mem _ hz)
    exact ⟨x :: l', rfl, fun z hz => by rcases List.mem_cons.1 hz with rfl | hz; exact hx; exact hl' z hz⟩
/-! by the tables -/
theorem cellsOf_ty {ty : Ty} (h : TyOk P t ty) : P.cellsOf t = ty.size := by
  obtain ⟨i, d, z, h1, _, _, _, _, _, _, h8, _⟩ := h.unfold
  unfold Program.cellsOf; rw [h1]; exact h8
theorem bytesOf_ty {ty : Ty} (h : TyOk P t ty) : P.bytesOf t = ty.bytes := by
  obtain ⟨i, d, z, h1, _, _, _, _, _, _, _, h9, _⟩ := h.unfold
  unfold Program.bytesOf; rw [h1]; exact h9
variable {cx : Ctx} {ty : Ty}
theorem rdIntT (tys : TysOk P cx) (hty : cx.ty t = some ty) {k : IntKind} (hu : ty.u = .int k) (hs : ty.size = 1) : Rd P t 1 fun ts => ∃ n : Int, ts = [.int k n] ∧ (k.min ≤ n ∧ n ≤ k.max) := by
  obtain ⟨d, h1, h2⟩ := und_of (tys.ty _ _ hty)
  rw [hu] at h2
  exact (rdInt (by rw [h1, uOf_int h2]) (by rw [cellsOf_ty (tys.ty _ _ hty), hs])).imp fun ts ⟨n, h1, h2⟩ => ⟨n, h1, h2⟩
theorem rdBoolT (tys : TysOk P cx) (hty : cx.ty t = some ty) (hu : ty.u = .bool) (hs : ty.size = 1) : Rd P t 1 fun ts => ∃ b : Bool, ts = [.bool b] ∧ True := by
  obtain ⟨d, h1, h2⟩ := und_of (tys.ty _ _ hty)
  rw [hu] at h2
  exact (rdBool (by rw [h1, uOf_bool h2]) (by rw [cellsOf_ty (tys.ty _ _ hty), hs])).imp fun ts ⟨b, h⟩ => ⟨b, h, trivial⟩
theorem rdStrT (tys : TysOk P cx) (hty : cx.ty t = some ty) (hu : ty.u = .str) (hs : ty.size = 1) : Rd P t 1 fun ts => ∃ s : List Nat, ts = [.str s] ∧ s.length ≤ 140737488351232 := by
  obtain ⟨d, h1, h2⟩ := und_of (tys.ty _ _ hty)
  rw [hu] at h2
  exact rdStr (by rw [h1, uOf_str h2]) (by rw [cellsOf_ty (tys.ty _ _ hty), hs])
theorem rdSliceT (tys : TysOk P cx) (hty : cx.ty t = some ty) {e n : Nat} {te : Ty} (hu : ty.u = .slice e) (hs : ty.size = 1) (hte : cx.ty e = some te) {α : Type} {g : α → List T} {p : α → Prop} (he : Rd P e n fun ts => ∃ x, ts = g x ∧ p x) (hpos : 1 ≤ n) (ag : Bool) (hag : ag = false → n = 1) {f : α → T} (hf : ∀ x, mkT ag (g x) = f x) :
    Rd P t 1 fun ts => ∃ l : List α, ts = [sl (l.map f)] ∧ (l.length * te.bytes ≤ 140737488351232 ∧ ∀ x ∈ l, p x) := by
  obtain ⟨d, h1, h2⟩ := und_of (tys.ty _ _ hty)
  rw [hu] at h2
  refine (rdSlice (by rw [h1, uOf_slice h2]) (by rw [cellsOf_ty (tys.ty _ _ hty), hs]) (bytesOf_ty (tys.ty _ _ hte)) he hpos ag hag).imp ?_
  rintro ts ⟨es, rfl, hl, hes⟩
  obtain ⟨l, rfl, hp⟩ := pick_all (f := g) (p := p) hes
  refine ⟨l, ?_, by simpa using hl, hp⟩
  rw [List.map_map]
  congr 2
  apply List.map_congr_left
  intro x _; exact hf x
/-- A struct's fields, by their places. -/
theorem rdF_of : ∀ {fs : List Field} {o : Nat} {ps : List (Nat × TypeId)} {Qs : List (List T → Prop)}, ps = fs.map (fun f => (f.offset, f.type)) → RdP P ps o Qs → RdF P fs o Qs := by
  intro fs
  induction fs with
  | nil => intro o ps Qs h hp; subst h; cases hp; exact .nil _
  | cons f fs ih =>
    intro o ps Qs h hp
    subst h
    cases hp with | cons _ _ _ _ n Q Qs ho hq r => exact .cons f fs o n Q Qs ho hq (ih rfl r)
theorem rdStructT (tys : TysOk P cx) (hty : cx.ty t = some ty) {ps : List (Nat × TypeId)} {n : Nat} {Qs : List (List T → Prop)} (hu : ty.u = .struct ps) (hs : ty.size = n) (hF : RdP P ps 0 Qs) (hc : ∀ ts, Cut Qs ts → ts.length = n) : Rd P t n fun ts => Cut Qs ts := by
  obtain ⟨d, h1, h2⟩ := und_of (tys.ty _ _ hty)
  rw [hu] at h2
  obtain ⟨fs, rfl, h3⟩ := uOf_struct h2
  exact rdStruct h1 (by rw [cellsOf_ty (tys.ty _ _ hty), hs]) (rdF_of h3.1 hF) hc
end
/-- A call whose contract says that it returns true leaves all that was there as it was. -/
theorem calls_pure {P : Program} {cx : Ctx} {F : FuncId} {fn : Func} {c : Code} {args : List T} {cargs : Array Value} (hF : P.funcs[F]? = some fn) (hname : (fn.name == "runtime.NumGoroutine") = false) (hb : fn.body = some c)
    (hp : PureAt P cx F args (.bool true)) (W : World) (hgl : ∀ g cs, cx.gl g = some cs → RelV W.heap noMu (.tptr cs) (.pointer (some ⟨g, 0, none⟩))) (hL : RelL W.heap noMu args cargs.toList) :
    Calls P F cargs W fun e W' => e = .returned (.bool true) ∧ RowKit.Below W.heap.size W W' := by
  have s : St cx W.heap.size W.heap noMu ⟨0, 0, []⟩ :=
    ⟨rfl, Nat.le_refl _, fun b L hb => by simp [noMu] at hb, fun b b' L L' hb => by simp [noMu] at hb, fun b L hb => by simp [noMu] at hb, fun b L hb => by simp [noMu] at hb, fun i hr => hr.elim, hgl⟩
  have h1 := hp W.heap.size W noMu cargs ⟨0, 0, []⟩ s hL
  rw [run_callFunc_enter hF hname hb] at h1
  have h1 : Calls P F cargs W fun
    | .returned v, w'' => AfterG cx W.heap.size W noMu ⟨0, 0, []⟩ (.bool true) ⟨0, 0, []⟩ v w''
    | _, _ => False := h1
  refine h1.mono fun e W' he => ?_
  cases e with
  | returned v =>
    obtain ⟨⟨μ', k1, k2, k3, k4⟩, _⟩ := he
    refine ⟨by rw [k1.inv_bool], k3.os, k3.tape, k3.output, k3.ext.size, fun k hk => (k3.ext.old k hk ?_).1⟩
    rintro (⟨b, L, hb, _⟩ | hr)
    · simp [noMu] at hb
    · exact hr
  | _ => exact he.elim
/-- A struct that is handed in. -/
theorem relV_struct {hp : Array Obj} {cs : List T} {v : Value} (h : RelL hp noMu cs v.cells.toList) (hs : ∀ x ∈ cs, Shut x) (hv : ∃ a, v = .agg a) : RelV hp noMu (.agg cs) v := by
  obtain ⟨a, rfl⟩ := hv
  exact RelV.aggOf h fun x hx => (hs x hx).1
theorem relV_one {hp : Array Obj} {x : T} {v : Value} (h : RelL hp noMu [x] v.cells.toList) (hv : v.cells = #[v]) : RelV hp noMu x v := by
  rw [hv] at h
  obtain ⟨c, cs, hcs, hr, _⟩ := h.uncons
  simp at hcs
  rw [hcs.1]; exact hr
end Go.TI

/- Walks: slices of a function's own beside other boxes; loops that go up; structs held against each other. -/
namespace Go.TI
set_option linter.unusedVariables false
set_option linter.unusedSimpArgs false
/-- A heap in good order, of n boxes at least. -/
structure Ok1 (n : Nat) (h : H) : Prop where
  hp : Hp h
  low : h.low ≤ h.size
  sz : n ≤ h.size
theorem Ok1.cons {n : Nat} {h : H} (o : Ok1 n h) (x : Box) : Ok1 n (h.cons x) := ⟨by simpa using o.hp, by simp only [low_cons]; have := o.low; simp [H.cons]; omega, by have := o.sz; simp [H.cons]; omega⟩
theorem Ok1.ne {n : Nat} {h : H} (o : Ok1 n h) {b : Nat} (hb : b < n) : (b = h.size) = False := by have := o.sz; simp; omega
theorem Ok1.weak {n m : Nat} {h : H} (o : Ok1 n h) (hm : m ≤ n) : Ok1 m h := ⟨o.hp, o.low, Nat.le_trans hm o.sz⟩
theorem putB_low_le (h : H) (b : Nat) (y : Box) : (putB h b y).low ≤ h.low := by
  unfold putB
  cases hp : h.put b y with
  | none => exact Nat.le_refl _
  | some h' =>
    obtain ⟨size, low, boxes⟩ := h
    have hp : (chk (Nat.blt b size) (bnd (setNth boxes (Nat.sub (Nat.sub size 1) b) y) fun bs => @Bool.rec (fun _ => Option H) (some ⟨size, low, bs⟩) (some ⟨size, b, bs⟩) (Nat.blt b low))) = some h' := hp
    obtain ⟨_, hp⟩ := chk_eq_some.1 hp
    obtain ⟨bs, _, hp⟩ := bnd_eq_some.1 hp
    show h'.low ≤ low
    cases hlw : Nat.blt b low <;> rw [hlw] at hp <;> simp only [Option.some.injEq] at hp <;> subst hp
    · exact Nat.le_refl _
    · rw [Nat.blt_eq] at hlw; exact Nat.le_of_lt hlw
theorem Ok1.put {n : Nat} {h : H} (o : Ok1 n h) (b : Nat) (y : Box) : Ok1 n (putB h b y) := ⟨by simpa using o.hp, by rw [putB_size]; exact Nat.le_trans (putB_low_le h b y) o.low, by rw [putB_size]; exact o.sz⟩
/-- What boxes of other sizes hold stays. -/
structure Keeps (sz : Nat) (h h' : H) : Prop where
  get : ∀ c x, h.get c = some x → x.sz ≠ sz → h'.get c = some x
  ok : ∀ n, Ok1 n h → Ok1 n h'
  size : h.size ≤ h'.size
theorem Keeps.refl (sz : Nat) (h : H) : Keeps sz h h := ⟨fun _ _ hg _ => hg, fun _ o => o, Nat.le_refl _⟩
theorem Keeps.trans {sz : Nat} {h h1 h2 : H} (a : Keeps sz h h1) (b : Keeps sz h1 h2) : Keeps sz h h2 := ⟨fun c x hg hs => b.get c x (a.get c x hg hs) hs, fun n o => b.ok n (a.ok n o), Nat.le_trans a.size b.size⟩
theorem Keeps.cons (sz : Nat) (h : H) (x : Box) : Keeps sz h (h.cons x) := ⟨fun c y hg _ => by have := H.get_lt hg; rw [get_consN, if_neg (by omega)]; exact hg, fun n o => o.cons x, by simp [H.cons]⟩
theorem Keeps.put {sz : Nat} {h : H} {b : Nat} {x : Box} (hg : h.get b = some x) (hs : x.sz = sz) (y : Box) : Keeps sz h (putB h b y) := ⟨fun c z hc hz => by
  rw [putB_get hg]
  by_cases hb : c = b
  · subst hb; rw [hg] at hc; simp only [Option.some.injEq] at hc; subst hc; exact absurd hs hz
  · rw [if_neg hb]; exact hc, fun n o => o.put b y, by simp⟩
theorem Own.putNe {h : H} {lo : Nat} {v : T} {sz : Nat} {es : List T} (ho : Own h lo v sz es) {c : Nat} {x : Box} (hg : h.get c = some x) (hs : x.sz ≠ sz) (y : Box) : Own (putB h c y) lo v sz es := by
  rcases ho with ho | ⟨b, ep, ver, ex, h1, h2, h3⟩
  · exact .inl ho
  · refine .inr ⟨b, ep, ver, ex, h1, h2, ?_⟩
    rw [putB_get hg]
    by_cases hb : b = c
    · subst hb; rw [hg] at h3; simp only [Option.some.injEq] at h3; subst h3; exact absurd rfl hs
    · rw [if_neg hb]; exact h3
/-- 'append(s, xs..)', and what it leaves. -/
theorem Own.appS {cx : Ctx} {h : H} {v : T} {sz : Nat} {es : List T} (ho : Own h 0 v sz es) {t tx el : TypeId} {ty tyx te : Ty} (h1 : cx.ty t = some ty) (h2 : ty.u = .slice el) (h3 : cx.ty el = some te) (h4 : cx.ty tx = some tyx) (h5 : tyx.u = .slice el) (hs : te.size = sz) (hb : 1 ≤ te.bytes)
    {x : T} {xs : List T} (hxs : h.items x = some xs) (hx : ∀ e ∈ xs, e.cells.length = sz) (hn : (es.length + xs.length) * te.bytes ≤ 70368744177664) :
    ∃ v' h', bAppend cx h t tx v x = some (.val v' h') ∧ Own h' 0 v' sz (es ++ xs) ∧ Keeps sz h h' := by
  have hA : bAppend cx h t tx v x = valNew (h.append te.size te.bytes v xs) := by
    unfold bAppend elemTy srcItems
    rw [h1, bnd_some, h4, bnd_some]
    simp only [h2, h3, h5, hxs, bnd_some]
    rw [hs, fits_all hx, chk_true]
  rw [hA, hs]
  cases xs with
  | nil =>
    refine ⟨v, h, ?_, by simpa using ho, Keeps.refl _ _⟩
    show valNew (chk (isSliceT v) (some (v, h))) = _
    rcases ho with ⟨rfl, _⟩ | ⟨b, ep, ver, ex, _, rfl, _⟩ <;> rfl
  | cons y ys =>
    rcases ho with ⟨rfl, rfl⟩ | ⟨b, ep, ver, ex, k1, rfl, k3⟩
    · refine ⟨.arr h.size 0 0 (y :: ys).length false, h.cons ⟨sz, 0, 0, false, false, y :: ys⟩, ?_, .inr ⟨h.size, 0, 0, false, Nat.zero_le _, rfl, by simp⟩, Keeps.cons _ _ _⟩
      show valNew (h.appendNew sz te.bytes [] (y :: ys)) = _
      rw [appendNew_eq hx hb (by simpa using hn)]; rfl
    · refine ⟨.arr b (ep + 1) 0 (es ++ y :: ys).length false, putB h b ⟨sz, ep + 1, ver + 1, false, false, es ++ y :: ys⟩, ?_, .inr ⟨b, ep + 1, ver + 1, false, k1, rfl, by rw [putB_get k3, if_pos rfl]⟩, Keeps.put k3 rfl _⟩
      show valNew (h.appendOn sz te.bytes b ep es.length (y :: ys)) = _
      rw [appendOn_eq k3 hx hb hn]; rfl
theorem Own.appSM {cx : Ctx} {h : H} {v : T} {sz : Nat} {α : Type} {f : α → T} {es : List α} (ho : Own h 0 v sz (es.map f)) {t el : TypeId} {ty te : Ty} (h1 : cx.ty t = some ty) (h2 : ty.u = .slice el) (h3 : cx.ty el = some te) (hs : te.size = sz) (hb : 1 ≤ te.bytes)
    (hf : ∀ x, csz (f x) = sz) (xs : List α) (hn : (es.length + xs.length) * te.bytes ≤ 70368744177664) :
    ∃ v' h', bAppend cx h t t v (sl (xs.map f)) = some (.val v' h') ∧ Own h' 0 v' sz ((es ++ xs).map f) ∧ Keeps sz h h' := by
  obtain ⟨v', h', k1, k2, k3⟩ := ho.appS (x := sl (xs.map f)) (xs := xs.map f) h1 h2 h3 h1 h2 hs hb (by simp) (by simpa using fun a _ => show (f a).cells.length = sz from hf a) (by simpa using hn)
  exact ⟨v', h', k1, by rw [List.map_append]; exact k2, k3⟩
theorem Own.appSM1 {cx : Ctx} {h : H} {v : T} {sz : Nat} {α : Type} {f : α → T} {es : List α} (ho : Own h 0 v sz (es.map f)) {t el : TypeId} {ty te : Ty} (h1 : cx.ty t = some ty) (h2 : ty.u = .slice el) (h3 : cx.ty el = some te) (hs : te.size = sz) (hb : 1 ≤ te.bytes)
    (hf : ∀ x, csz (f x) = sz) (x : α) (hn : (es.length + 1) * te.bytes ≤ 70368744177664) :
    ∃ v' h', bAppend cx (h.cons ⟨sz, 0, 0, true, false, [f x]⟩) t t v (.arr h.size 0 0 1 false) = some (.val v' h') ∧ Own h' 0 v' sz ((es ++ [x]).map f) ∧ Keeps sz h h' := by
  obtain ⟨v', h', k1, k2, k3⟩ := (ho.cons ⟨sz, 0, 0, true, false, [f x]⟩).appS (x := .arr h.size 0 0 1 false) (xs := [f x]) h1 h2 h3 h1 h2 hs hb (by rw [items_arr]; simp) (by simpa using show (f x).cells.length = sz from hf x) (by simpa using hn)
  exact ⟨v', h', k1, by rw [List.map_append]; exact k2, (Keeps.cons _ _ _).trans k3⟩
/-- A loop that goes up. -/
theorem W_up {body : Env → H → Out} (N : Nat) (J : Nat → Vars → H → Prop) {K : Kont}
    (hb : ∀ k vs h, k ≤ N → J k vs h → W (body ⟨vs, .nil⟩ h) (kinv (fun e h => e.tmps = .nil ∧ ∃ k', k < k' ∧ k' ≤ N ∧ J k' e.vars h) K)) {n : Nat} (hn : N < n) {k : Nat} (hk : k ≤ N) {vs : Vars} {h : H} (hJ : J k vs h) : W (loopT body n ⟨vs, .nil⟩ h) K := by
  refine W_loop (σ := Nat) (I := fun k e h => k ≤ N ∧ e.tmps = .nil ∧ J k e.vars h) (m := fun k => N - k) ?_ n k _ _ (by omega) ⟨hk, rfl, hJ⟩
  rintro k ⟨vs, tm⟩ h ⟨hk, ht, hJ⟩
  simp only at ht hJ
  subst ht
  obtain ⟨x, e, h1, ho, hx⟩ := hb k vs h hk hJ
  refine ⟨x, e, h1, ho, ?_⟩
  cases x with
  | normal =>
    obtain ⟨k1, k', k2, k3, k4⟩ := hx
    exact ⟨k', by omega, k3, k1, k4⟩
  | exit i => exact hx
  | ret => exact hx
/-! structs held against each other -/
section
variable {cx : Ctx}
@[simp] theorem eqFields_nil (i : Nat) (a b : List T) : eqFields cx [] i a b = some true := id rfl
theorem eqT_struct {ty : Ty} {fs : List (Nat × TypeId)} (hu : ty.u = .struct fs) (hc : ty.cmp = true) (a b : List T) : eqT cx ty (.agg a) (.agg b) = eqFields cx fs 0 a b := by
  unfold eqT; rw [hu]; simp only [hc]; rfl
@[simp] theorem plain_int (k : IntKind) : (U.int k).plain = true := id rfl
@[simp] theorem plain_str : U.str.plain = true := id rfl
@[simp] theorem plain_bool : U.bool.plain = true := id rfl
end
end Go.TI
