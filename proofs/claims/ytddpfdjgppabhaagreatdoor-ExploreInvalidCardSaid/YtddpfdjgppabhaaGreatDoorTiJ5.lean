/- The interpreter of trees, part 5 of 8: TiFast2 TiTab TiQuick TiMemo TiEnt TiGlob TiOpen TiMore TiEval TiRule TiHeap. -/
import Derived.Test.YtddpfdjgppabhaaGreatDoorTiJ4
import Derived.KernelRfl
import Derived.Below
import Derived.Lib.LaidU8
import Derived.OpenShut
set_option linter.unusedSimpArgs false
set_option linter.unusedVariables false
/- The interpreter, quick: draws that need no look, functions, calls. -/
namespace Go.TI
set_option linter.unusedVariables false
section
variable {P : Program} {cx : Ctx} {cf : CallF} {mask fuel : Nat} {K : List Nat}

def lookK : Op → Bool
  | .load .. | .indexAddr .. | .slice .. | .convert .. | .lookup .. | .alloc .. | .box .. | .buildSlice .. | .makeSlice .. | .range .. | .makeMap .. => true
  | _ => false

/-- Whatever looks at a box and whatever changes one stand in an order. -/
def statB (ops : Array Oper) : Bool :=
  let bs := befs ops.toList []
  let os := ops.toList.zipIdx
  os.all fun y => os.all fun x => !Nat.blt x.2 y.2 || !((lookK x.1.op && isEff y.1.op) || (isEff x.1.op && (lookK y.1.op || isEff y.1.op))) || (bs.getD y.2 0).testBit x.2

theorem statB_pairs {ops : Array Oper} (hb : statB ops = true) {i j : Nat} {oi oj : Oper} (hi : ops[i]? = some oi) (hj : ops[j]? = some oj) (hij : i < j)
    (hk : (lookK oi.op = true ∧ isEff oj.op = true) ∨ (isEff oi.op = true ∧ (lookK oj.op = true ∨ isEff oj.op = true))) : ordered ops i j = true := by
  unfold statB at hb
  have h1 := List.all_eq_true.1 hb (oj, j) (mem_zipIdx hj)
  have h2 := List.all_eq_true.1 h1 (oi, i) (mem_zipIdx hi)
  have h3 : Nat.blt i j = true := by rw [Nat.blt_eq]; exact hij
  simp only [h3, Bool.not_true, Bool.false_or, Bool.or_eq_true, Bool.not_eq_true'] at h2
  rcases h2 with h2 | h2
  · exfalso
    rcases hk with ⟨k1, k2⟩ | ⟨k1, k2 | k2⟩ <;> simp [k1, k2] at h2
  · exact h2

theorem lookK_of {e : Env} {h : H} {op : Op} {b : Nat} (hh : looksBox cx mask e h op = some b) : lookK op = true := by
  cases op <;> first | rfl | (simp [looksBox] at hh)

theorem runDraw_stat {ops : Array Oper} (hs : statB ops = true) : ∀ (l : List Oper) (i : Nat) (s : Seen) (e : Env) (h : H), (∀ t, l[t]? = ops[i + t]?) →
    (∀ p ∈ s.loads, p.1 < i ∧ ∃ o, ops[p.1]? = some o ∧ lookK o.op = true) → (∀ p ∈ s.effs, p.1 < i ∧ ∃ o, ops[p.1]? = some o ∧ isEff o.op = true) →
    runDraw cx cf mask ops l i s e h = runOps cx cf mask ops l e h := by
  intro l
  induction l with
  | nil => intro i s e h _ _ _; rfl
  | cons o l ih =>
    intro i s e h hl hlo hef
    have hi : ops[i]? = some o := by have := hl 0; simpa using this.symm
    have hl' : ∀ t, l[t]? = ops[i + 1 + t]? := fun t => by
      have := hl (t + 1)
      simp only [List.getElem?_cons_succ] at this
      rw [this]; congr 1; omega
    show (bnd (stepOp cx cf mask ops e h o) fun p => two p fun e1 h1 =>
      bnd (wantT ops mask e o.guard) fun want => @Bool.rec (fun _ => Option (Env × H)) (runDraw cx cf mask ops l (i + 1) s e1 h1)
        (@Bool.rec (fun _ => Option (Env × H))
          (@Option.rec Nat (fun _ => Option (Env × H)) (runDraw cx cf mask ops l (i + 1) s e1 h1)
            (fun b => chk (loadOk ops i b s.effs) (runDraw cx cf mask ops l (i + 1) ⟨(i, b) :: s.loads, s.effs⟩ e1 h1)) (looksBox cx mask e h o.op))
          (chk (effOk ops i h h1 s.loads) (chk (storeOk cx mask ops i e s.effs o.op) (runDraw cx cf mask ops l (i + 1) ⟨s.loads, (i, h, h1) :: s.effs⟩ e1 h1))) (isEff o.op)) want)
      = bnd (stepOp cx cf mask ops e h o) fun p => two p fun e' h' => runOps cx cf mask ops l e' h'
    cases hst : stepOp cx cf mask ops e h o with
    | none => rfl
    | some p =>
      obtain ⟨e1, h1⟩ := p
      simp only [bnd_some, two_mk]
      have hlo' : ∀ p ∈ s.loads, p.1 < i + 1 ∧ ∃ o, ops[p.1]? = some o ∧ lookK o.op = true := fun p hp => ⟨by have := (hlo p hp).1; omega, (hlo p hp).2⟩
      have hef' : ∀ p ∈ s.effs, p.1 < i + 1 ∧ ∃ o, ops[p.1]? = some o ∧ isEff o.op = true := fun p hp => ⟨by have := (hef p hp).1; omega, (hef p hp).2⟩
      have hwant : ∃ w, wantT ops mask e o.guard = some w := by
        rcases stepOp_inv hst with ⟨hw, _⟩ | ⟨hw, _⟩ <;> exact ⟨_, hw⟩
      obtain ⟨w, hw⟩ := hwant
      rw [hw]
      simp only [bnd_some]
      cases w with
      | false => exact ih (i + 1) s e1 h1 hl' hlo' hef'
      | true =>
        simp only
        cases he : isEff o.op with
        | true =>
          have : effOk ops i h h1 s.loads = true := by
            unfold effOk
            rw [allB_eq, List.all_eq_true]
            intro p hp
            obtain ⟨k1, ok, k2, k3⟩ := hlo p hp
            have := statB_pairs hs k2 hi k1 (.inl ⟨k3, he⟩)
            show @Bool.rec (fun _ => Bool) (ordered ops p.1 i) true (sameVer h h1 p.2) = true
            rw [this]
            cases sameVer h h1 p.2 <;> rfl
          have h2 : ∀ b, loadOk ops i b s.effs = true := fun b => by
            unfold loadOk
            rw [allB_eq, List.all_eq_true]
            intro p hp
            obtain ⟨k1, ok, k2, k3⟩ := hef p hp
            have := statB_pairs hs k2 hi k1 (.inr ⟨k3, .inr he⟩)
            show @Bool.rec (fun _ => Bool) (ordered ops p.1 i) true (sameVer p.2.1 p.2.2 b) = true
            rw [this]
            cases sameVer p.2.1 p.2.2 b <;> rfl
          have h3 : storeOk cx mask ops i e s.effs o.op = true := by
            unfold storeOk
            split
            · rename_i t x v _
              cases bnd (opnd cx mask e x) boxOf with
              | none => rfl
              | some b => exact h2 b
            · rfl
          simp only [this, h3, chk_true]
          refine ih (i + 1) _ e1 h1 hl' hlo' fun p hp => ?_
          rcases List.mem_cons.1 hp with rfl | hp
          · exact ⟨by simp, o, hi, he⟩
          · exact hef' p hp
        | false =>
          simp only
          cases hb : looksBox cx mask e h o.op with
          | none => exact ih (i + 1) s e1 h1 hl' hlo' hef'
          | some b =>
            have hlk := lookK_of hb
            have : loadOk ops i b s.effs = true := by
              unfold loadOk
              rw [allB_eq, List.all_eq_true]
              intro p hp
              obtain ⟨k1, ok, k2, k3⟩ := hef p hp
              have := statB_pairs hs k2 hi k1 (.inr ⟨k3, .inl hlk⟩)
              show @Bool.rec (fun _ => Bool) (ordered ops p.1 i) true (sameVer p.2.1 p.2.2 b) = true
              rw [this]
              cases sameVer p.2.1 p.2.2 b <;> rfl
            simp only [this, chk_true]
            refine ih (i + 1) _ e1 h1 hl' (fun p hp => ?_) hef'
            rcases List.mem_cons.1 hp with rfl | hp
            · exact ⟨by simp, o, hi, hlk⟩
            · exact hlo' p hp

/-- A region that draws, where the order is of no account. -/
theorem EqR.draw {id : Nat} {ops : Array Oper} {R : Env → H → Out} (hs : statB ops = true) (hR : EqR K (codeT cx cf fuel mask (.region id ops false)) R) : EqR K (codeT cx cf fuel mask (.region id ops true)) R := by
  intro e h hk
  rw [← hR e h hk]
  obtain ⟨vars, tmps⟩ := e
  show (bnd (runDraw cx cf mask ops ops.toList 0 ⟨[], []⟩ ⟨vars, .nil⟩ h) fun r => two r fun e' h' => some (Ex.normal, (⟨e'.vars, .nil⟩ : Env), h'))
    = bnd (runOps cx cf mask ops ops.toList ⟨vars, .nil⟩ h) fun r => two r fun e' h' => some (Ex.normal, (⟨e'.vars, .nil⟩ : Env), h')
  rw [runDraw_stat hs ops.toList 0 ⟨[], []⟩ ⟨vars, .nil⟩ h (fun t => by simp) (fun p hp => by simp at hp) (fun p hp => by simp at hp)]

/-! ### functions and calls -/

abbrev Quick := CallF → Nat → List T → H → Option (T × H)

noncomputable def bodyF (cx : Ctx) (init : List T → Option Vars) (code : CallF → Nat → Env → H → Out) (res : List ResultVar) (mask : Nat) (keep : Bool) : Quick := fun cf fuel args h =>
  H.casesOn h fun size low boxes => bnd (init args) fun vars =>
    bnd (code cf fuel ⟨vars, .nil⟩ ⟨size, size, boxes⟩) fun r => three r fun x e' h' => Ex.casesOn x
      (bnd (resultsT cx mask e' h' res) fun vs => leave keep size low (oneOrTuple vs) h')
      (fun _ => none)
      (bnd (resultsT cx mask e' h' res) fun vs => leave keep size low (oneOrTuple vs) h')

/-- A quick function stands for the program's. -/
def QuickOk (P : Program) (cx : Ctx) (f : FuncId) (g : Quick) : Prop :=
  ∀ cf, CallOk P cx cf → ∀ n args h r h', g cf n args h = some (r, h') → ∀ base w μ (cargs : Array Value), St cx base w.heap μ h → RelL w.heap μ args cargs.toList → Ran P (AfterG cx base w μ h r h') ((callFunc f cargs).run P w)

theorem quick_deep (hm : P.follows .mixedOrders = true) (tys : TysOk P cx) {f : FuncId} {F : Fun} (hF : P.funcs[f]? = some F.fn) (hok : okFun F = true) : QuickOk P cx f (fun cf n args h => bodyT cx cf n F.fn F.mask F.keep args h) := by
  intro cf ck n args h r h' hh base w μ cargs s hL
  exact body_sound hm tys ck hF hok hh s hL

theorem quick_prim {f : FuncId} {p : Prim} (hp : PrimOk P cx f p) : QuickOk P cx f (fun _ _ args h => primT p args h) := by
  intro cf ck n args h r h' hh base w μ cargs s hL
  exact hp args h r h' hh base w μ cargs s hL

theorem quick_fast (hm : P.follows .mixedOrders = true) (tys : TysOk P cx) {f : FuncId} {F : Fun} {c : Code} {init : List T → Option Vars} {code : CallF → Nat → Env → H → Out} {res : List ResultVar} (hF : P.funcs[f]? = some F.fn) (hok : okFun F = true)
    (hb : F.fn.body = some c) (hr : F.fn.results.toList = res) (hinit : ∀ args v, init args = some v → initVars F.mask F.fn.ntmps 0 args = some v ∧ keys v = K)
    (hcode : ∀ cf fuel, EqR K (codeT cx cf fuel F.mask c) (code cf fuel)) : QuickOk P cx f (bodyF cx init code res F.mask F.keep) := by
  intro cf ck n args h r h' hh base w μ cargs s hL
  refine body_sound (F := F) (fuel := n) hm tys ck hF hok ?_ s hL
  obtain ⟨size, low, boxes⟩ := h
  have hh : (bnd (init args) fun vars => bnd (code cf n ⟨vars, .nil⟩ ⟨size, size, boxes⟩) fun r => three r fun x e' h' => @Ex.rec (fun _ => Option (T × H))
      (bnd (resultsT cx F.mask e' h' res) fun vs => leave F.keep size low (oneOrTuple vs) h')
      (fun _ => none)
      (bnd (resultsT cx F.mask e' h' res) fun vs => leave F.keep size low (oneOrTuple vs) h') x) = some (r, h') := hh
  obtain ⟨vars, hv, hh⟩ := bnd_eq_some.1 hh
  obtain ⟨h1, h2⟩ := hinit args vars hv
  rw [← hcode cf n ⟨vars, .nil⟩ ⟨size, size, boxes⟩ h2, ← hr] at hh
  show (Option.casesOn F.fn.body none fun body => bnd (initVars F.mask F.fn.ntmps 0 args) fun vars =>
    bnd (codeT cx cf n F.mask body ⟨vars, .nil⟩ ⟨size, size, boxes⟩) fun r => three r fun x e' h' => Ex.casesOn x
      (bnd (resultsT cx F.mask e' h' F.fn.results.toList) fun vs => leave F.keep size low (oneOrTuple vs) h')
      (fun _ => none)
      (bnd (resultsT cx F.mask e' h' F.fn.results.toList) fun vs => leave F.keep size low (oneOrTuple vs) h')) = some (r, h')
  rw [hb, h1]
  exact hh

noncomputable def callF (ft : FuncId → Option Quick) (n : Nat) : CallF :=
  @Nat.rec (fun _ => CallF) (fun _ _ _ => none) (fun n ih f args h => bnd (ft f) fun g => g ih n args h) n

theorem callF_sound {ft : FuncId → Option Quick} (hq : ∀ f g, ft f = some g → QuickOk P cx f g) : ∀ n, CallOk P cx (callF ft n) := by
  intro n
  induction n with
  | zero => intro f args h r h' hh; simp [callF] at hh
  | succ n ih =>
    intro f args h r h' hh base w μ cargs s hL
    have hh : (bnd (ft f) fun g => g (callF ft n) n args h) = some (r, h') := hh
    obtain ⟨g, hg, hh⟩ := bnd_eq_some.1 hh
    exact hq f g hg (callF ft n) ih n args h r h' hh base w μ cargs s hL
end

/-! ### what regions' terms are made of -/

def wantV (x : T) (w : Bool) : Option Bool := match x with
  | .bool b => some (Bool.casesOn b (Bool.casesOn w true false) w)
  | _ => some false
def nilV (c : Bool) (a b : T) : Bool := match a with
  | .nili => (match b with | .nili => c | _ => true)
  | _ => true
noncomputable def fieldV (off : Nat) (tf : Ty) (h : H) (x : T) : Option Did := match x with
  | .agg cs => bnd (dropN off cs) fun r => val h (readAs tf r)
  | _ => none
noncomputable def faV (off : Nat) (h : H) (x : T) : Option Did := match x with
  | .ptr b ep i j => bnd (normNat (Nat.add j off)) fun j' => some (.val (.ptr b ep i j') h)
  | .tptr cs => bnd (dropN off cs) fun cs' => some (.val (.tptr cs') h)
  | _ => none
noncomputable def iaV (h : H) (te : Ty) (x i : T) : Option Did := bnd (toIdx i) fun i => idxSlice h te x i
noncomputable def aaV (h : H) (n : Nat) (te : Ty) (x i : T) : Option Did := bnd (toIdx i) fun i => idxArray h n te x i
noncomputable def isV (h : H) (x i : T) : Option Did := bnd (toIdx i) fun i => match x with | .str s => bnd (nthD s i) fun c => val h (some (.int .u8 (.ofNat c))) | _ => none
noncomputable def ixV (h : H) (n : Nat) (te : Ty) (x i : T) : Option Did := bnd (toIdx i) fun i => match x with
  | .agg cs => chk (Nat.blt i n) (bnd (dropN (Nat.mul i te.size) cs) fun r => val h (readAs te r))
  | _ => none
noncomputable def stV (h : H) (ty : Ty) (a v : T) : Option Did := chk v.good (bnd (h.store ty a v) fun h' => some (.val .undef h'))
def pickV (h : H) (c a b : T) : Option Did := match c with
  | .bool t => Bool.casesOn t (val h (some b)) (val h (some a))
  | _ => none
def ncV (h : H) (v : T) : Option Did := match v with
  | .ptr .. | .tptr _ | .func .. => some (.val v h)
  | _ => none
noncomputable def boxV (h : H) (v : T) : Option Did := chk v.good (valNew (h.new (fun b => .ptr b 0 0 0) (newBox (lenN v.cells) true [v])))
noncomputable def partsV (l : List (Nat × T)) : Option (List (Nat × T)) := mapOpt (fun p => two p fun i x => chk x.good (some (i, x))) l
noncomputable def buildV (cx : Ctx) (fs : List (Nat × TypeId)) (zero : List T) (h : H) (l : List (Nat × T)) : Option Did :=
  bnd (partsV l) fun ps => bnd (fillCells (fun i => bnd (nthD fs i) fun f => bnd (cx.ty f.2) fun tf => some (f.1, tf.size)) ps zero) fun cs => val h (some (.agg cs))
noncomputable def bslV (te : Ty) (len : Nat) (h : H) (l : List (Nat × T)) : Option Did :=
  bnd (partsV l) fun ps => chk (Nat.ble 1 te.size) <| chk (Nat.ble (Nat.mul len te.size) 65536) (bnd (fillElems te.size ps (replicateN te.zeroT len)) fun es => valNew (h.new (fun b => .arr b 0 0 len false) (newBox te.size true es)))
noncomputable def exV (h : H) (v : T) (i : Nat) : Option Did := match v with | .tuple vs => val h (nthD vs i) | _ => none
noncomputable def cloV (args : List T) (v : T) : Option Did := match v with
  | .func f cap => bnd (appN args cap) fun l => some (.call f l)
  | _ => none
noncomputable def lenS (h : H) (x : T) : Option Did := match x with
  | .tree es _ => val h (bnd (normNat (lenN es)) fun n => some (.int .i64 (.ofNat n)))
  | .ewild => val h (some (.int .i64 0))
  | .arr _ _ _ l _ => val h (some (.int .i64 (.ofNat l)))
  | _ => none
noncomputable def lenT (h : H) (x : T) : Option Did := match x with
  | .str s => val h (bnd (normNat (lenN s)) fun n => some (.int .i64 (.ofNat n)))
  | _ => none
end Go.TI

/- Tables of types and functions. -/
namespace Go.TI

inductive Tree (α : Type) where
  | nil
  | node (l : Tree α) (k : Nat) (v : α) (r : Tree α)

noncomputable def Tree.find {α : Type} (t : Tree α) (k : Nat) : Option α :=
  @Tree.rec α (fun _ => Option α) none (fun _ k' v _ ihl ihr => @Bool.rec (fun _ => Option α) (@Bool.rec (fun _ => Option α) ihr ihl (Nat.blt k k')) (some v) (Nat.beq k k')) t

def Tree.toList {α : Type} : Tree α → List (Nat × α)
  | .nil => []
  | .node l k v r => l.toList ++ (k, v) :: r.toList

theorem Tree.find_mem {α : Type} {t : Tree α} {k : Nat} {v : α} (h : t.find k = some v) : (k, v) ∈ t.toList := by
  induction t with
  | nil => simp [Tree.find] at h
  | node l k' v' r ihl ihr =>
    have h : @Bool.rec (fun _ => Option α) (@Bool.rec (fun _ => Option α) (r.find k) (l.find k) (Nat.blt k k')) (some v') (Nat.beq k k') = some v := h
    simp only [Tree.toList, List.mem_append, List.mem_cons]
    cases hb : Nat.beq k k' with
    | true =>
      rw [hb] at h
      have hk := Nat.eq_of_beq_eq_true hb
      have hv : v' = v := Option.some.inj h
      rw [hk, hv]
      exact .inr (.inl rfl)
    | false =>
      rw [hb] at h
      cases hl : Nat.blt k k' with
      | true => rw [hl] at h; exact .inl (ihl h)
      | false => rw [hl] at h; exact .inr (.inr (ihr h))

inductive Tree.All {α : Type} (p : Nat → α → Prop) : Tree α → Prop where
  | nil : All p .nil
  | node {l : Tree α} {k : Nat} {v : α} {r : Tree α} : All p l → p k v → All p r → All p (.node l k v r)

theorem Tree.All.find {α : Type} {p : Nat → α → Prop} {t : Tree α} (h : t.All p) {k : Nat} {v : α} (hf : t.find k = some v) : p k v := by
  have hm := Tree.find_mem hf
  clear hf
  induction h with
  | nil => simp [Tree.toList] at hm
  | node hl hp hr ihl ihr =>
    simp only [Tree.toList, List.mem_append, List.mem_cons, Prod.mk.injEq] at hm
    rcases hm with h | ⟨rfl, rfl⟩ | h
    · exact ihl h
    · exact hp
    · exact ihr h
end Go.TI

/- Small words for the quick functions' texts. -/
namespace Go.TI
set_option linter.unusedVariables false

/-- As bnd over a pair. -/
noncomputable def bn2 {ρ : Type} (x : Option (T × H)) (k : T → H → Option ρ) : Option ρ := @Option.rec (T × H) (fun _ => Option ρ) none (fun p => @Prod.rec T H (fun _ => Option ρ) (fun v h => k v h) p) x
noncomputable abbrev lk := @TI.look
noncomputable abbrev sv := @TI.setVar
abbrev FinV := H → Option T → Option (T × H)
abbrev FinE := H → Bool → Option Bool → Option (T × H)

def bodyOf (F : Fun) : Code := Option.casesOn F.fn.body .skip fun c => c

/-- A region by its number. -/
def regOf (id : Nat) : Code → Option Code
  | .region i ops d => Bool.casesOn (Nat.beq i id) none (some (.region i ops d))
  | .seq a b => Option.casesOn (regOf id a) (regOf id b) fun c => some c
  | .cond _ a b => Option.casesOn (regOf id a) (regOf id b) fun c => some c
  | .block _ a => regOf id a
  | .loop a => regOf id a
  | _ => none
def regAt (id : Nat) (c : Code) : Code := Option.casesOn (regOf id c) .skip fun c => c

theorem EqR.same {cx : Ctx} {cf : CallF} {mask fuel : Nat} {K : List Nat} {a b : Code} (h : a = b) : EqR K (codeT cx cf fuel mask a) (codeT cx cf fuel mask b) := by subst h; exact EqR.refl _

noncomputable def ini0 (V : Vars) : List T → Option Vars := fun l => List.casesOn l (some V) fun _ _ => none
noncomputable def ini1 (V : T → Vars) : List T → Option Vars := fun l => List.casesOn l none fun a l => ini0 (V a) l
noncomputable def ini2 (V : T → T → Vars) : List T → Option Vars := fun l => List.casesOn l none fun a l => ini1 (V a) l
noncomputable def ini3 (V : T → T → T → Vars) : List T → Option Vars := fun l => List.casesOn l none fun a l => ini2 (V a) l
noncomputable def ini4 (V : T → T → T → T → Vars) : List T → Option Vars := fun l => List.casesOn l none fun a l => ini3 (V a) l
noncomputable def ini5 (V : T → T → T → T → T → Vars) : List T → Option Vars := fun l => List.casesOn l none fun a l => ini4 (V a) l
noncomputable def ini6 (V : T → T → T → T → T → T → Vars) : List T → Option Vars := fun l => List.casesOn l none fun a l => ini5 (V a) l
noncomputable def ini7 (V : T → T → T → T → T → T → T → Vars) : List T → Option Vars := fun l => List.casesOn l none fun a l => ini6 (V a) l
noncomputable def ini8 (V : T → T → T → T → T → T → T → T → Vars) : List T → Option Vars := fun l => List.casesOn l none fun a l => ini7 (V a) l

def IniOk (mask nt : Nat) (K : List Nat) (pre : List T) (i : List T → Option Vars) : Prop := ∀ args v, i args = some v → initVars mask nt 0 (pre ++ args) = some v ∧ keys v = K
section
variable {mask nt : Nat} {K : List Nat} {pre : List T}
theorem ini0_ok {V : Vars} (h : initVars mask nt 0 pre = some V ∧ keys V = K) : IniOk mask nt K pre (ini0 V) := by
  intro args v hv
  cases args with
  | nil =>
    have hv : some V = some v := hv
    simp only [Option.some.injEq] at hv; subst hv
    simpa using h
  | cons => simp [ini0] at hv
theorem iniS_ok {f : T → List T → Option Vars} {i : List T → Option Vars} (hi : i = fun l => @List.casesOn T (fun _ => Option Vars) l none fun a l => f a l) (h : ∀ a, IniOk mask nt K (pre ++ [a]) (f a)) : IniOk mask nt K pre i := by
  subst hi
  intro args v hv
  cases args with
  | nil => simp at hv
  | cons a l =>
    have := h a l v hv
    simpa using this
theorem ini1_ok {V : T → Vars} (h : ∀ a, initVars mask nt 0 (pre ++ [a]) = some (V a) ∧ keys (V a) = K) : IniOk mask nt K pre (ini1 V) := iniS_ok rfl fun a => ini0_ok (h a)
theorem ini2_ok {V : T → T → Vars} (h : ∀ a b, initVars mask nt 0 (pre ++ [a] ++ [b]) = some (V a b) ∧ keys (V a b) = K) : IniOk mask nt K pre (ini2 V) := iniS_ok rfl fun a => ini1_ok (h a)
theorem ini3_ok {V : T → T → T → Vars} (h : ∀ a b c, initVars mask nt 0 (pre ++ [a] ++ [b] ++ [c]) = some (V a b c) ∧ keys (V a b c) = K) : IniOk mask nt K pre (ini3 V) := iniS_ok rfl fun a => ini2_ok (h a)
theorem ini4_ok {V : T → T → T → T → Vars} (h : ∀ a b c d, initVars mask nt 0 (pre ++ [a] ++ [b] ++ [c] ++ [d]) = some (V a b c d) ∧ keys (V a b c d) = K) : IniOk mask nt K pre (ini4 V) := iniS_ok rfl fun a => ini3_ok (h a)
theorem ini5_ok {V : T → T → T → T → T → Vars} (h : ∀ a b c d e, initVars mask nt 0 (pre ++ [a] ++ [b] ++ [c] ++ [d] ++ [e]) = some (V a b c d e) ∧ keys (V a b c d e) = K) : IniOk mask nt K pre (ini5 V) := iniS_ok rfl fun a => ini4_ok (h a)
theorem ini6_ok {V : T → T → T → T → T → T → Vars} (h : ∀ a b c d e f, initVars mask nt 0 (pre ++ [a] ++ [b] ++ [c] ++ [d] ++ [e] ++ [f]) = some (V a b c d e f) ∧ keys (V a b c d e f) = K) : IniOk mask nt K pre (ini6 V) := iniS_ok rfl fun a => ini5_ok (h a)
theorem ini7_ok {V : T → T → T → T → T → T → T → Vars} (h : ∀ a b c d e f g, initVars mask nt 0 (pre ++ [a] ++ [b] ++ [c] ++ [d] ++ [e] ++ [f] ++ [g]) = some (V a b c d e f g) ∧ keys (V a b c d e f g) = K) : IniOk mask nt K pre (ini7 V) := iniS_ok rfl fun a => ini6_ok (h a)
theorem ini8_ok {V : T → T → T → T → T → T → T → T → Vars} (h : ∀ a b c d e f g i, initVars mask nt 0 (pre ++ [a] ++ [b] ++ [c] ++ [d] ++ [e] ++ [f] ++ [g] ++ [i]) = some (V a b c d e f g i) ∧ keys (V a b c d e f g i) = K) : IniOk mask nt K pre (ini8 V) := iniS_ok rfl fun a => ini7_ok (h a)
theorem IniOk.out {i : List T → Option Vars} (h : IniOk mask nt K [] i) : ∀ args v, i args = some v → initVars mask nt 0 args = some v ∧ keys v = K := h
end

section
variable {P : List T → Prop}
theorem allS {n : Nat} {f : Prop} (h : ∀ x : T, ∀ xs : List T, xs.length = n → P (x :: xs)) : ∀ xs : List T, xs.length = n + 1 → P xs := by
  intro xs hl
  cases xs with
  | nil => simp at hl
  | cons x xs => exact h x xs (by simpa using hl)
theorem all0 (h : P []) : ∀ xs : List T, xs.length = 0 → P xs := fun xs hl => by rw [List.eq_nil_of_length_eq_zero hl]; exact h
end
theorem all1 {P : List T → Prop} (h : ∀ x0 : T, P [x0]) : ∀ xs : List T, xs.length = 1 → P xs := allS (f := True) fun x => all0 (P := fun xs => P (x :: xs)) (h x)
theorem all2 {P : List T → Prop} (h : ∀ x0 x1 : T, P [x0, x1]) : ∀ xs : List T, xs.length = 2 → P xs := allS (f := True) fun x => all1 (P := fun xs => P (x :: xs)) (h x)
theorem all3 {P : List T → Prop} (h : ∀ x0 x1 x2 : T, P [x0, x1, x2]) : ∀ xs : List T, xs.length = 3 → P xs := allS (f := True) fun x => all2 (P := fun xs => P (x :: xs)) (h x)
theorem all4 {P : List T → Prop} (h : ∀ x0 x1 x2 x3 : T, P [x0, x1, x2, x3]) : ∀ xs : List T, xs.length = 4 → P xs := allS (f := True) fun x => all3 (P := fun xs => P (x :: xs)) (h x)
theorem all5 {P : List T → Prop} (h : ∀ x0 x1 x2 x3 x4 : T, P [x0, x1, x2, x3, x4]) : ∀ xs : List T, xs.length = 5 → P xs := allS (f := True) fun x => all4 (P := fun xs => P (x :: xs)) (h x)
theorem all6 {P : List T → Prop} (h : ∀ x0 x1 x2 x3 x4 x5 : T, P [x0, x1, x2, x3, x4, x5]) : ∀ xs : List T, xs.length = 6 → P xs := allS (f := True) fun x => all5 (P := fun xs => P (x :: xs)) (h x)
theorem all7 {P : List T → Prop} (h : ∀ x0 x1 x2 x3 x4 x5 x6 : T, P [x0, x1, x2, x3, x4, x5, x6]) : ∀ xs : List T, xs.length = 7 → P xs := allS (f := True) fun x => all6 (P := fun xs => P (x :: xs)) (h x)
theorem all8 {P : List T → Prop} (h : ∀ x0 x1 x2 x3 x4 x5 x6 x7 : T, P [x0, x1, x2, x3, x4, x5, x6, x7]) : ∀ xs : List T, xs.length = 8 → P xs := allS (f := True) fun x => all7 (P := fun xs => P (x :: xs)) (h x)
theorem all9 {P : List T → Prop} (h : ∀ x0 x1 x2 x3 x4 x5 x6 x7 x8 : T, P [x0, x1, x2, x3, x4, x5, x6, x7, x8]) : ∀ xs : List T, xs.length = 9 → P xs := allS (f := True) fun x => all8 (P := fun xs => P (x :: xs)) (h x)
theorem all10 {P : List T → Prop} (h : ∀ x0 x1 x2 x3 x4 x5 x6 x7 x8 x9 : T, P [x0, x1, x2, x3, x4, x5, x6, x7, x8, x9]) : ∀ xs : List T, xs.length = 10 → P xs := allS (f := True) fun x => all9 (P := fun xs => P (x :: xs)) (h x)
theorem all11 {P : List T → Prop} (h : ∀ x0 x1 x2 x3 x4 x5 x6 x7 x8 x9 x10 : T, P [x0, x1, x2, x3, x4, x5, x6, x7, x8, x9, x10]) : ∀ xs : List T, xs.length = 11 → P xs := allS (f := True) fun x => all10 (P := fun xs => P (x :: xs)) (h x)
theorem all12 {P : List T → Prop} (h : ∀ x0 x1 x2 x3 x4 x5 x6 x7 x8 x9 x10 x11 : T, P [x0, x1, x2, x3, x4, x5, x6, x7, x8, x9, x10, x11]) : ∀ xs : List T, xs.length = 12 → P xs := allS (f := True) fun x => all11 (P := fun xs => P (x :: xs)) (h x)
theorem all13 {P : List T → Prop} (h : ∀ x0 x1 x2 x3 x4 x5 x6 x7 x8 x9 x10 x11 x12 : T, P [x0, x1, x2, x3, x4, x5, x6, x7, x8, x9, x10, x11, x12]) : ∀ xs : List T, xs.length = 13 → P xs := allS (f := True) fun x => all12 (P := fun xs => P (x :: xs)) (h x)
theorem all14 {P : List T → Prop} (h : ∀ x0 x1 x2 x3 x4 x5 x6 x7 x8 x9 x10 x11 x12 x13 : T, P [x0, x1, x2, x3, x4, x5, x6, x7, x8, x9, x10, x11, x12, x13]) : ∀ xs : List T, xs.length = 14 → P xs := allS (f := True) fun x => all13 (P := fun xs => P (x :: xs)) (h x)
theorem all15 {P : List T → Prop} (h : ∀ x0 x1 x2 x3 x4 x5 x6 x7 x8 x9 x10 x11 x12 x13 x14 : T, P [x0, x1, x2, x3, x4, x5, x6, x7, x8, x9, x10, x11, x12, x13, x14]) : ∀ xs : List T, xs.length = 15 → P xs := allS (f := True) fun x => all14 (P := fun xs => P (x :: xs)) (h x)
theorem all16 {P : List T → Prop} (h : ∀ x0 x1 x2 x3 x4 x5 x6 x7 x8 x9 x10 x11 x12 x13 x14 x15 : T, P [x0, x1, x2, x3, x4, x5, x6, x7, x8, x9, x10, x11, x12, x13, x14, x15]) : ∀ xs : List T, xs.length = 16 → P xs := allS (f := True) fun x => all15 (P := fun xs => P (x :: xs)) (h x)
theorem all17 {P : List T → Prop} (h : ∀ x0 x1 x2 x3 x4 x5 x6 x7 x8 x9 x10 x11 x12 x13 x14 x15 x16 : T, P [x0, x1, x2, x3, x4, x5, x6, x7, x8, x9, x10, x11, x12, x13, x14, x15, x16]) : ∀ xs : List T, xs.length = 17 → P xs := allS (f := True) fun x => all16 (P := fun xs => P (x :: xs)) (h x)
theorem all18 {P : List T → Prop} (h : ∀ x0 x1 x2 x3 x4 x5 x6 x7 x8 x9 x10 x11 x12 x13 x14 x15 x16 x17 : T, P [x0, x1, x2, x3, x4, x5, x6, x7, x8, x9, x10, x11, x12, x13, x14, x15, x16, x17]) : ∀ xs : List T, xs.length = 18 → P xs := allS (f := True) fun x => all17 (P := fun xs => P (x :: xs)) (h x)
theorem all19 {P : List T → Prop} (h : ∀ x0 x1 x2 x3 x4 x5 x6 x7 x8 x9 x10 x11 x12 x13 x14 x15 x16 x17 x18 : T, P [x0, x1, x2, x3, x4, x5, x6, x7, x8, x9, x10, x11, x12, x13, x14, x15, x16, x17, x18]) : ∀ xs : List T, xs.length = 19 → P xs := allS (f := True) fun x => all18 (P := fun xs => P (x :: xs)) (h x)
theorem all20 {P : List T → Prop} (h : ∀ x0 x1 x2 x3 x4 x5 x6 x7 x8 x9 x10 x11 x12 x13 x14 x15 x16 x17 x18 x19 : T, P [x0, x1, x2, x3, x4, x5, x6, x7, x8, x9, x10, x11, x12, x13, x14, x15, x16, x17, x18, x19]) : ∀ xs : List T, xs.length = 20 → P xs := allS (f := True) fun x => all19 (P := fun xs => P (x :: xs)) (h x)
theorem all21 {P : List T → Prop} (h : ∀ x0 x1 x2 x3 x4 x5 x6 x7 x8 x9 x10 x11 x12 x13 x14 x15 x16 x17 x18 x19 x20 : T, P [x0, x1, x2, x3, x4, x5, x6, x7, x8, x9, x10, x11, x12, x13, x14, x15, x16, x17, x18, x19, x20]) : ∀ xs : List T, xs.length = 21 → P xs := allS (f := True) fun x => all20 (P := fun xs => P (x :: xs)) (h x)
theorem all22 {P : List T → Prop} (h : ∀ x0 x1 x2 x3 x4 x5 x6 x7 x8 x9 x10 x11 x12 x13 x14 x15 x16 x17 x18 x19 x20 x21 : T, P [x0, x1, x2, x3, x4, x5, x6, x7, x8, x9, x10, x11, x12, x13, x14, x15, x16, x17, x18, x19, x20, x21]) : ∀ xs : List T, xs.length = 22 → P xs := allS (f := True) fun x => all21 (P := fun xs => P (x :: xs)) (h x)
theorem all23 {P : List T → Prop} (h : ∀ x0 x1 x2 x3 x4 x5 x6 x7 x8 x9 x10 x11 x12 x13 x14 x15 x16 x17 x18 x19 x20 x21 x22 : T, P [x0, x1, x2, x3, x4, x5, x6, x7, x8, x9, x10, x11, x12, x13, x14, x15, x16, x17, x18, x19, x20, x21, x22]) : ∀ xs : List T, xs.length = 23 → P xs := allS (f := True) fun x => all22 (P := fun xs => P (x :: xs)) (h x)
theorem all24 {P : List T → Prop} (h : ∀ x0 x1 x2 x3 x4 x5 x6 x7 x8 x9 x10 x11 x12 x13 x14 x15 x16 x17 x18 x19 x20 x21 x22 x23 : T, P [x0, x1, x2, x3, x4, x5, x6, x7, x8, x9, x10, x11, x12, x13, x14, x15, x16, x17, x18, x19, x20, x21, x22, x23]) : ∀ xs : List T, xs.length = 24 → P xs := allS (f := True) fun x => all23 (P := fun xs => P (x :: xs)) (h x)
theorem all25 {P : List T → Prop} (h : ∀ x0 x1 x2 x3 x4 x5 x6 x7 x8 x9 x10 x11 x12 x13 x14 x15 x16 x17 x18 x19 x20 x21 x22 x23 x24 : T, P [x0, x1, x2, x3, x4, x5, x6, x7, x8, x9, x10, x11, x12, x13, x14, x15, x16, x17, x18, x19, x20, x21, x22, x23, x24]) : ∀ xs : List T, xs.length = 25 → P xs := allS (f := True) fun x => all24 (P := fun xs => P (x :: xs)) (h x)
theorem all26 {P : List T → Prop} (h : ∀ x0 x1 x2 x3 x4 x5 x6 x7 x8 x9 x10 x11 x12 x13 x14 x15 x16 x17 x18 x19 x20 x21 x22 x23 x24 x25 : T, P [x0, x1, x2, x3, x4, x5, x6, x7, x8, x9, x10, x11, x12, x13, x14, x15, x16, x17, x18, x19, x20, x21, x22, x23, x24, x25]) : ∀ xs : List T, xs.length = 26 → P xs := allS (f := True) fun x => all25 (P := fun xs => P (x :: xs)) (h x)
theorem all27 {P : List T → Prop} (h : ∀ x0 x1 x2 x3 x4 x5 x6 x7 x8 x9 x10 x11 x12 x13 x14 x15 x16 x17 x18 x19 x20 x21 x22 x23 x24 x25 x26 : T, P [x0, x1, x2, x3, x4, x5, x6, x7, x8, x9, x10, x11, x12, x13, x14, x15, x16, x17, x18, x19, x20, x21, x22, x23, x24, x25, x26]) : ∀ xs : List T, xs.length = 27 → P xs := allS (f := True) fun x => all26 (P := fun xs => P (x :: xs)) (h x)
theorem all28 {P : List T → Prop} (h : ∀ x0 x1 x2 x3 x4 x5 x6 x7 x8 x9 x10 x11 x12 x13 x14 x15 x16 x17 x18 x19 x20 x21 x22 x23 x24 x25 x26 x27 : T, P [x0, x1, x2, x3, x4, x5, x6, x7, x8, x9, x10, x11, x12, x13, x14, x15, x16, x17, x18, x19, x20, x21, x22, x23, x24, x25, x26, x27]) : ∀ xs : List T, xs.length = 28 → P xs := allS (f := True) fun x => all27 (P := fun xs => P (x :: xs)) (h x)
theorem all29 {P : List T → Prop} (h : ∀ x0 x1 x2 x3 x4 x5 x6 x7 x8 x9 x10 x11 x12 x13 x14 x15 x16 x17 x18 x19 x20 x21 x22 x23 x24 x25 x26 x27 x28 : T, P [x0, x1, x2, x3, x4, x5, x6, x7, x8, x9, x10, x11, x12, x13, x14, x15, x16, x17, x18, x19, x20, x21, x22, x23, x24, x25, x26, x27, x28]) : ∀ xs : List T, xs.length = 29 → P xs := allS (f := True) fun x => all28 (P := fun xs => P (x :: xs)) (h x)
theorem all30 {P : List T → Prop} (h : ∀ x0 x1 x2 x3 x4 x5 x6 x7 x8 x9 x10 x11 x12 x13 x14 x15 x16 x17 x18 x19 x20 x21 x22 x23 x24 x25 x26 x27 x28 x29 : T, P [x0, x1, x2, x3, x4, x5, x6, x7, x8, x9, x10, x11, x12, x13, x14, x15, x16, x17, x18, x19, x20, x21, x22, x23, x24, x25, x26, x27, x28, x29]) : ∀ xs : List T, xs.length = 30 → P xs := allS (f := True) fun x => all29 (P := fun xs => P (x :: xs)) (h x)
theorem all31 {P : List T → Prop} (h : ∀ x0 x1 x2 x3 x4 x5 x6 x7 x8 x9 x10 x11 x12 x13 x14 x15 x16 x17 x18 x19 x20 x21 x22 x23 x24 x25 x26 x27 x28 x29 x30 : T, P [x0, x1, x2, x3, x4, x5, x6, x7, x8, x9, x10, x11, x12, x13, x14, x15, x16, x17, x18, x19, x20, x21, x22, x23, x24, x25, x26, x27, x28, x29, x30]) : ∀ xs : List T, xs.length = 31 → P xs := allS (f := True) fun x => all30 (P := fun xs => P (x :: xs)) (h x)
theorem all32 {P : List T → Prop} (h : ∀ x0 x1 x2 x3 x4 x5 x6 x7 x8 x9 x10 x11 x12 x13 x14 x15 x16 x17 x18 x19 x20 x21 x22 x23 x24 x25 x26 x27 x28 x29 x30 x31 : T, P [x0, x1, x2, x3, x4, x5, x6, x7, x8, x9, x10, x11, x12, x13, x14, x15, x16, x17, x18, x19, x20, x21, x22, x23, x24, x25, x26, x27, x28, x29, x30, x31]) : ∀ xs : List T, xs.length = 32 → P xs := allS (f := True) fun x => all31 (P := fun xs => P (x :: xs)) (h x)
theorem all33 {P : List T → Prop} (h : ∀ x0 x1 x2 x3 x4 x5 x6 x7 x8 x9 x10 x11 x12 x13 x14 x15 x16 x17 x18 x19 x20 x21 x22 x23 x24 x25 x26 x27 x28 x29 x30 x31 x32 : T, P [x0, x1, x2, x3, x4, x5, x6, x7, x8, x9, x10, x11, x12, x13, x14, x15, x16, x17, x18, x19, x20, x21, x22, x23, x24, x25, x26, x27, x28, x29, x30, x31, x32]) : ∀ xs : List T, xs.length = 33 → P xs := allS (f := True) fun x => all32 (P := fun xs => P (x :: xs)) (h x)
theorem all34 {P : List T → Prop} (h : ∀ x0 x1 x2 x3 x4 x5 x6 x7 x8 x9 x10 x11 x12 x13 x14 x15 x16 x17 x18 x19 x20 x21 x22 x23 x24 x25 x26 x27 x28 x29 x30 x31 x32 x33 : T, P [x0, x1, x2, x3, x4, x5, x6, x7, x8, x9, x10, x11, x12, x13, x14, x15, x16, x17, x18, x19, x20, x21, x22, x23, x24, x25, x26, x27, x28, x29, x30, x31, x32, x33]) : ∀ xs : List T, xs.length = 34 → P xs := allS (f := True) fun x => all33 (P := fun xs => P (x :: xs)) (h x)
theorem all35 {P : List T → Prop} (h : ∀ x0 x1 x2 x3 x4 x5 x6 x7 x8 x9 x10 x11 x12 x13 x14 x15 x16 x17 x18 x19 x20 x21 x22 x23 x24 x25 x26 x27 x28 x29 x30 x31 x32 x33 x34 : T, P [x0, x1, x2, x3, x4, x5, x6, x7, x8, x9, x10, x11, x12, x13, x14, x15, x16, x17, x18, x19, x20, x21, x22, x23, x24, x25, x26, x27, x28, x29, x30, x31, x32, x33, x34]) : ∀ xs : List T, xs.length = 35 → P xs := allS (f := True) fun x => all34 (P := fun xs => P (x :: xs)) (h x)
theorem all36 {P : List T → Prop} (h : ∀ x0 x1 x2 x3 x4 x5 x6 x7 x8 x9 x10 x11 x12 x13 x14 x15 x16 x17 x18 x19 x20 x21 x22 x23 x24 x25 x26 x27 x28 x29 x30 x31 x32 x33 x34 x35 : T, P [x0, x1, x2, x3, x4, x5, x6, x7, x8, x9, x10, x11, x12, x13, x14, x15, x16, x17, x18, x19, x20, x21, x22, x23, x24, x25, x26, x27, x28, x29, x30, x31, x32, x33, x34, x35]) : ∀ xs : List T, xs.length = 36 → P xs := allS (f := True) fun x => all35 (P := fun xs => P (x :: xs)) (h x)
theorem all37 {P : List T → Prop} (h : ∀ x0 x1 x2 x3 x4 x5 x6 x7 x8 x9 x10 x11 x12 x13 x14 x15 x16 x17 x18 x19 x20 x21 x22 x23 x24 x25 x26 x27 x28 x29 x30 x31 x32 x33 x34 x35 x36 : T, P [x0, x1, x2, x3, x4, x5, x6, x7, x8, x9, x10, x11, x12, x13, x14, x15, x16, x17, x18, x19, x20, x21, x22, x23, x24, x25, x26, x27, x28, x29, x30, x31, x32, x33, x34, x35, x36]) : ∀ xs : List T, xs.length = 37 → P xs := allS (f := True) fun x => all36 (P := fun xs => P (x :: xs)) (h x)
theorem all38 {P : List T → Prop} (h : ∀ x0 x1 x2 x3 x4 x5 x6 x7 x8 x9 x10 x11 x12 x13 x14 x15 x16 x17 x18 x19 x20 x21 x22 x23 x24 x25 x26 x27 x28 x29 x30 x31 x32 x33 x34 x35 x36 x37 : T, P [x0, x1, x2, x3, x4, x5, x6, x7, x8, x9, x10, x11, x12, x13, x14, x15, x16, x17, x18, x19, x20, x21, x22, x23, x24, x25, x26, x27, x28, x29, x30, x31, x32, x33, x34, x35, x36, x37]) : ∀ xs : List T, xs.length = 38 → P xs := allS (f := True) fun x => all37 (P := fun xs => P (x :: xs)) (h x)
theorem all39 {P : List T → Prop} (h : ∀ x0 x1 x2 x3 x4 x5 x6 x7 x8 x9 x10 x11 x12 x13 x14 x15 x16 x17 x18 x19 x20 x21 x22 x23 x24 x25 x26 x27 x28 x29 x30 x31 x32 x33 x34 x35 x36 x37 x38 : T, P [x0, x1, x2, x3, x4, x5, x6, x7, x8, x9, x10, x11, x12, x13, x14, x15, x16, x17, x18, x19, x20, x21, x22, x23, x24, x25, x26, x27, x28, x29, x30, x31, x32, x33, x34, x35, x36, x37, x38]) : ∀ xs : List T, xs.length = 39 → P xs := allS (f := True) fun x => all38 (P := fun xs => P (x :: xs)) (h x)
theorem all40 {P : List T → Prop} (h : ∀ x0 x1 x2 x3 x4 x5 x6 x7 x8 x9 x10 x11 x12 x13 x14 x15 x16 x17 x18 x19 x20 x21 x22 x23 x24 x25 x26 x27 x28 x29 x30 x31 x32 x33 x34 x35 x36 x37 x38 x39 : T, P [x0, x1, x2, x3, x4, x5, x6, x7, x8, x9, x10, x11, x12, x13, x14, x15, x16, x17, x18, x19, x20, x21, x22, x23, x24, x25, x26, x27, x28, x29, x30, x31, x32, x33, x34, x35, x36, x37, x38, x39]) : ∀ xs : List T, xs.length = 40 → P xs := allS (f := True) fun x => all39 (P := fun xs => P (x :: xs)) (h x)
theorem all41 {P : List T → Prop} (h : ∀ x0 x1 x2 x3 x4 x5 x6 x7 x8 x9 x10 x11 x12 x13 x14 x15 x16 x17 x18 x19 x20 x21 x22 x23 x24 x25 x26 x27 x28 x29 x30 x31 x32 x33 x34 x35 x36 x37 x38 x39 x40 : T, P [x0, x1, x2, x3, x4, x5, x6, x7, x8, x9, x10, x11, x12, x13, x14, x15, x16, x17, x18, x19, x20, x21, x22, x23, x24, x25, x26, x27, x28, x29, x30, x31, x32, x33, x34, x35, x36, x37, x38, x39, x40]) : ∀ xs : List T, xs.length = 41 → P xs := allS (f := True) fun x => all40 (P := fun xs => P (x :: xs)) (h x)
theorem all42 {P : List T → Prop} (h : ∀ x0 x1 x2 x3 x4 x5 x6 x7 x8 x9 x10 x11 x12 x13 x14 x15 x16 x17 x18 x19 x20 x21 x22 x23 x24 x25 x26 x27 x28 x29 x30 x31 x32 x33 x34 x35 x36 x37 x38 x39 x40 x41 : T, P [x0, x1, x2, x3, x4, x5, x6, x7, x8, x9, x10, x11, x12, x13, x14, x15, x16, x17, x18, x19, x20, x21, x22, x23, x24, x25, x26, x27, x28, x29, x30, x31, x32, x33, x34, x35, x36, x37, x38, x39, x40, x41]) : ∀ xs : List T, xs.length = 42 → P xs := allS (f := True) fun x => all41 (P := fun xs => P (x :: xs)) (h x)
theorem all43 {P : List T → Prop} (h : ∀ x0 x1 x2 x3 x4 x5 x6 x7 x8 x9 x10 x11 x12 x13 x14 x15 x16 x17 x18 x19 x20 x21 x22 x23 x24 x25 x26 x27 x28 x29 x30 x31 x32 x33 x34 x35 x36 x37 x38 x39 x40 x41 x42 : T, P [x0, x1, x2, x3, x4, x5, x6, x7, x8, x9, x10, x11, x12, x13, x14, x15, x16, x17, x18, x19, x20, x21, x22, x23, x24, x25, x26, x27, x28, x29, x30, x31, x32, x33, x34, x35, x36, x37, x38, x39, x40, x41, x42]) : ∀ xs : List T, xs.length = 43 → P xs := allS (f := True) fun x => all42 (P := fun xs => P (x :: xs)) (h x)
theorem all44 {P : List T → Prop} (h : ∀ x0 x1 x2 x3 x4 x5 x6 x7 x8 x9 x10 x11 x12 x13 x14 x15 x16 x17 x18 x19 x20 x21 x22 x23 x24 x25 x26 x27 x28 x29 x30 x31 x32 x33 x34 x35 x36 x37 x38 x39 x40 x41 x42 x43 : T, P [x0, x1, x2, x3, x4, x5, x6, x7, x8, x9, x10, x11, x12, x13, x14, x15, x16, x17, x18, x19, x20, x21, x22, x23, x24, x25, x26, x27, x28, x29, x30, x31, x32, x33, x34, x35, x36, x37, x38, x39, x40, x41, x42, x43]) : ∀ xs : List T, xs.length = 44 → P xs := allS (f := True) fun x => all43 (P := fun xs => P (x :: xs)) (h x)
theorem all45 {P : List T → Prop} (h : ∀ x0 x1 x2 x3 x4 x5 x6 x7 x8 x9 x10 x11 x12 x13 x14 x15 x16 x17 x18 x19 x20 x21 x22 x23 x24 x25 x26 x27 x28 x29 x30 x31 x32 x33 x34 x35 x36 x37 x38 x39 x40 x41 x42 x43 x44 : T, P [x0, x1, x2, x3, x4, x5, x6, x7, x8, x9, x10, x11, x12, x13, x14, x15, x16, x17, x18, x19, x20, x21, x22, x23, x24, x25, x26, x27, x28, x29, x30, x31, x32, x33, x34, x35, x36, x37, x38, x39, x40, x41, x42, x43, x44]) : ∀ xs : List T, xs.length = 45 → P xs := allS (f := True) fun x => all44 (P := fun xs => P (x :: xs)) (h x)
theorem all46 {P : List T → Prop} (h : ∀ x0 x1 x2 x3 x4 x5 x6 x7 x8 x9 x10 x11 x12 x13 x14 x15 x16 x17 x18 x19 x20 x21 x22 x23 x24 x25 x26 x27 x28 x29 x30 x31 x32 x33 x34 x35 x36 x37 x38 x39 x40 x41 x42 x43 x44 x45 : T, P [x0, x1, x2, x3, x4, x5, x6, x7, x8, x9, x10, x11, x12, x13, x14, x15, x16, x17, x18, x19, x20, x21, x22, x23, x24, x25, x26, x27, x28, x29, x30, x31, x32, x33, x34, x35, x36, x37, x38, x39, x40, x41, x42, x43, x44, x45]) : ∀ xs : List T, xs.length = 46 → P xs := allS (f := True) fun x => all45 (P := fun xs => P (x :: xs)) (h x)
theorem all47 {P : List T → Prop} (h : ∀ x0 x1 x2 x3 x4 x5 x6 x7 x8 x9 x10 x11 x12 x13 x14 x15 x16 x17 x18 x19 x20 x21 x22 x23 x24 x25 x26 x27 x28 x29 x30 x31 x32 x33 x34 x35 x36 x37 x38 x39 x40 x41 x42 x43 x44 x45 x46 : T, P [x0, x1, x2, x3, x4, x5, x6, x7, x8, x9, x10, x11, x12, x13, x14, x15, x16, x17, x18, x19, x20, x21, x22, x23, x24, x25, x26, x27, x28, x29, x30, x31, x32, x33, x34, x35, x36, x37, x38, x39, x40, x41, x42, x43, x44, x45, x46]) : ∀ xs : List T, xs.length = 47 → P xs := allS (f := True) fun x => all46 (P := fun xs => P (x :: xs)) (h x)
theorem all48 {P : List T → Prop} (h : ∀ x0 x1 x2 x3 x4 x5 x6 x7 x8 x9 x10 x11 x12 x13 x14 x15 x16 x17 x18 x19 x20 x21 x22 x23 x24 x25 x26 x27 x28 x29 x30 x31 x32 x33 x34 x35 x36 x37 x38 x39 x40 x41 x42 x43 x44 x45 x46 x47 : T, P [x0, x1, x2, x3, x4, x5, x6, x7, x8, x9, x10, x11, x12, x13, x14, x15, x16, x17, x18, x19, x20, x21, x22, x23, x24, x25, x26, x27, x28, x29, x30, x31, x32, x33, x34, x35, x36, x37, x38, x39, x40, x41, x42, x43, x44, x45, x46, x47]) : ∀ xs : List T, xs.length = 48 → P xs := allS (f := True) fun x => all47 (P := fun xs => P (x :: xs)) (h x)
theorem all49 {P : List T → Prop} (h : ∀ x0 x1 x2 x3 x4 x5 x6 x7 x8 x9 x10 x11 x12 x13 x14 x15 x16 x17 x18 x19 x20 x21 x22 x23 x24 x25 x26 x27 x28 x29 x30 x31 x32 x33 x34 x35 x36 x37 x38 x39 x40 x41 x42 x43 x44 x45 x46 x47 x48 : T, P [x0, x1, x2, x3, x4, x5, x6, x7, x8, x9, x10, x11, x12, x13, x14, x15, x16, x17, x18, x19, x20, x21, x22, x23, x24, x25, x26, x27, x28, x29, x30, x31, x32, x33, x34, x35, x36, x37, x38, x39, x40, x41, x42, x43, x44, x45, x46, x47, x48]) : ∀ xs : List T, xs.length = 49 → P xs := allS (f := True) fun x => all48 (P := fun xs => P (x :: xs)) (h x)
theorem all50 {P : List T → Prop} (h : ∀ x0 x1 x2 x3 x4 x5 x6 x7 x8 x9 x10 x11 x12 x13 x14 x15 x16 x17 x18 x19 x20 x21 x22 x23 x24 x25 x26 x27 x28 x29 x30 x31 x32 x33 x34 x35 x36 x37 x38 x39 x40 x41 x42 x43 x44 x45 x46 x47 x48 x49 : T, P [x0, x1, x2, x3, x4, x5, x6, x7, x8, x9, x10, x11, x12, x13, x14, x15, x16, x17, x18, x19, x20, x21, x22, x23, x24, x25, x26, x27, x28, x29, x30, x31, x32, x33, x34, x35, x36, x37, x38, x39, x40, x41, x42, x43, x44, x45, x46, x47, x48, x49]) : ∀ xs : List T, xs.length = 50 → P xs := allS (f := True) fun x => all49 (P := fun xs => P (x :: xs)) (h x)
theorem all51 {P : List T → Prop} (h : ∀ x0 x1 x2 x3 x4 x5 x6 x7 x8 x9 x10 x11 x12 x13 x14 x15 x16 x17 x18 x19 x20 x21 x22 x23 x24 x25 x26 x27 x28 x29 x30 x31 x32 x33 x34 x35 x36 x37 x38 x39 x40 x41 x42 x43 x44 x45 x46 x47 x48 x49 x50 : T, P [x0, x1, x2, x3, x4, x5, x6, x7, x8, x9, x10, x11, x12, x13, x14, x15, x16, x17, x18, x19, x20, x21, x22, x23, x24, x25, x26, x27, x28, x29, x30, x31, x32, x33, x34, x35, x36, x37, x38, x39, x40, x41, x42, x43, x44, x45, x46, x47, x48, x49, x50]) : ∀ xs : List T, xs.length = 51 → P xs := allS (f := True) fun x => all50 (P := fun xs => P (x :: xs)) (h x)
theorem all52 {P : List T → Prop} (h : ∀ x0 x1 x2 x3 x4 x5 x6 x7 x8 x9 x10 x11 x12 x13 x14 x15 x16 x17 x18 x19 x20 x21 x22 x23 x24 x25 x26 x27 x28 x29 x30 x31 x32 x33 x34 x35 x36 x37 x38 x39 x40 x41 x42 x43 x44 x45 x46 x47 x48 x49 x50 x51 : T, P [x0, x1, x2, x3, x4, x5, x6, x7, x8, x9, x10, x11, x12, x13, x14, x15, x16, x17, x18, x19, x20, x21, x22, x23, x24, x25, x26, x27, x28, x29, x30, x31, x32, x33, x34, x35, x36, x37, x38, x39, x40, x41, x42, x43, x44, x45, x46, x47, x48, x49, x50, x51]) : ∀ xs : List T, xs.length = 52 → P xs := allS (f := True) fun x => all51 (P := fun xs => P (x :: xs)) (h x)
theorem all53 {P : List T → Prop} (h : ∀ x0 x1 x2 x3 x4 x5 x6 x7 x8 x9 x10 x11 x12 x13 x14 x15 x16 x17 x18 x19 x20 x21 x22 x23 x24 x25 x26 x27 x28 x29 x30 x31 x32 x33 x34 x35 x36 x37 x38 x39 x40 x41 x42 x43 x44 x45 x46 x47 x48 x49 x50 x51 x52 : T, P [x0, x1, x2, x3, x4, x5, x6, x7, x8, x9, x10, x11, x12, x13, x14, x15, x16, x17, x18, x19, x20, x21, x22, x23, x24, x25, x26, x27, x28, x29, x30, x31, x32, x33, x34, x35, x36, x37, x38, x39, x40, x41, x42, x43, x44, x45, x46, x47, x48, x49, x50, x51, x52]) : ∀ xs : List T, xs.length = 53 → P xs := allS (f := True) fun x => all52 (P := fun xs => P (x :: xs)) (h x)
theorem all54 {P : List T → Prop} (h : ∀ x0 x1 x2 x3 x4 x5 x6 x7 x8 x9 x10 x11 x12 x13 x14 x15 x16 x17 x18 x19 x20 x21 x22 x23 x24 x25 x26 x27 x28 x29 x30 x31 x32 x33 x34 x35 x36 x37 x38 x39 x40 x41 x42 x43 x44 x45 x46 x47 x48 x49 x50 x51 x52 x53 : T, P [x0, x1, x2, x3, x4, x5, x6, x7, x8, x9, x10, x11, x12, x13, x14, x15, x16, x17, x18, x19, x20, x21, x22, x23, x24, x25, x26, x27, x28, x29, x30, x31, x32, x33, x34, x35, x36, x37, x38, x39, x40, x41, x42, x43, x44, x45, x46, x47, x48, x49, x50, x51, x52, x53]) : ∀ xs : List T, xs.length = 54 → P xs := allS (f := True) fun x => all53 (P := fun xs => P (x :: xs)) (h x)
theorem all55 {P : List T → Prop} (h : ∀ x0 x1 x2 x3 x4 x5 x6 x7 x8 x9 x10 x11 x12 x13 x14 x15 x16 x17 x18 x19 x20 x21 x22 x23 x24 x25 x26 x27 x28 x29 x30 x31 x32 x33 x34 x35 x36 x37 x38 x39 x40 x41 x42 x43 x44 x45 x46 x47 x48 x49 x50 x51 x52 x53 x54 : T, P [x0, x1, x2, x3, x4, x5, x6, x7, x8, x9, x10, x11, x12, x13, x14, x15, x16, x17, x18, x19, x20, x21, x22, x23, x24, x25, x26, x27, x28, x29, x30, x31, x32, x33, x34, x35, x36, x37, x38, x39, x40, x41, x42, x43, x44, x45, x46, x47, x48, x49, x50, x51, x52, x53, x54]) : ∀ xs : List T, xs.length = 55 → P xs := allS (f := True) fun x => all54 (P := fun xs => P (x :: xs)) (h x)
theorem all56 {P : List T → Prop} (h : ∀ x0 x1 x2 x3 x4 x5 x6 x7 x8 x9 x10 x11 x12 x13 x14 x15 x16 x17 x18 x19 x20 x21 x22 x23 x24 x25 x26 x27 x28 x29 x30 x31 x32 x33 x34 x35 x36 x37 x38 x39 x40 x41 x42 x43 x44 x45 x46 x47 x48 x49 x50 x51 x52 x53 x54 x55 : T, P [x0, x1, x2, x3, x4, x5, x6, x7, x8, x9, x10, x11, x12, x13, x14, x15, x16, x17, x18, x19, x20, x21, x22, x23, x24, x25, x26, x27, x28, x29, x30, x31, x32, x33, x34, x35, x36, x37, x38, x39, x40, x41, x42, x43, x44, x45, x46, x47, x48, x49, x50, x51, x52, x53, x54, x55]) : ∀ xs : List T, xs.length = 56 → P xs := allS (f := True) fun x => all55 (P := fun xs => P (x :: xs)) (h x)
theorem all57 {P : List T → Prop} (h : ∀ x0 x1 x2 x3 x4 x5 x6 x7 x8 x9 x10 x11 x12 x13 x14 x15 x16 x17 x18 x19 x20 x21 x22 x23 x24 x25 x26 x27 x28 x29 x30 x31 x32 x33 x34 x35 x36 x37 x38 x39 x40 x41 x42 x43 x44 x45 x46 x47 x48 x49 x50 x51 x52 x53 x54 x55 x56 : T, P [x0, x1, x2, x3, x4, x5, x6, x7, x8, x9, x10, x11, x12, x13, x14, x15, x16, x17, x18, x19, x20, x21, x22, x23, x24, x25, x26, x27, x28, x29, x30, x31, x32, x33, x34, x35, x36, x37, x38, x39, x40, x41, x42, x43, x44, x45, x46, x47, x48, x49, x50, x51, x52, x53, x54, x55, x56]) : ∀ xs : List T, xs.length = 57 → P xs := allS (f := True) fun x => all56 (P := fun xs => P (x :: xs)) (h x)
theorem all58 {P : List T → Prop} (h : ∀ x0 x1 x2 x3 x4 x5 x6 x7 x8 x9 x10 x11 x12 x13 x14 x15 x16 x17 x18 x19 x20 x21 x22 x23 x24 x25 x26 x27 x28 x29 x30 x31 x32 x33 x34 x35 x36 x37 x38 x39 x40 x41 x42 x43 x44 x45 x46 x47 x48 x49 x50 x51 x52 x53 x54 x55 x56 x57 : T, P [x0, x1, x2, x3, x4, x5, x6, x7, x8, x9, x10, x11, x12, x13, x14, x15, x16, x17, x18, x19, x20, x21, x22, x23, x24, x25, x26, x27, x28, x29, x30, x31, x32, x33, x34, x35, x36, x37, x38, x39, x40, x41, x42, x43, x44, x45, x46, x47, x48, x49, x50, x51, x52, x53, x54, x55, x56, x57]) : ∀ xs : List T, xs.length = 58 → P xs := allS (f := True) fun x => all57 (P := fun xs => P (x :: xs)) (h x)
theorem all59 {P : List T → Prop} (h : ∀ x0 x1 x2 x3 x4 x5 x6 x7 x8 x9 x10 x11 x12 x13 x14 x15 x16 x17 x18 x19 x20 x21 x22 x23 x24 x25 x26 x27 x28 x29 x30 x31 x32 x33 x34 x35 x36 x37 x38 x39 x40 x41 x42 x43 x44 x45 x46 x47 x48 x49 x50 x51 x52 x53 x54 x55 x56 x57 x58 : T, P [x0, x1, x2, x3, x4, x5, x6, x7, x8, x9, x10, x11, x12, x13, x14, x15, x16, x17, x18, x19, x20, x21, x22, x23, x24, x25, x26, x27, x28, x29, x30, x31, x32, x33, x34, x35, x36, x37, x38, x39, x40, x41, x42, x43, x44, x45, x46, x47, x48, x49, x50, x51, x52, x53, x54, x55, x56, x57, x58]) : ∀ xs : List T, xs.length = 59 → P xs := allS (f := True) fun x => all58 (P := fun xs => P (x :: xs)) (h x)
theorem all60 {P : List T → Prop} (h : ∀ x0 x1 x2 x3 x4 x5 x6 x7 x8 x9 x10 x11 x12 x13 x14 x15 x16 x17 x18 x19 x20 x21 x22 x23 x24 x25 x26 x27 x28 x29 x30 x31 x32 x33 x34 x35 x36 x37 x38 x39 x40 x41 x42 x43 x44 x45 x46 x47 x48 x49 x50 x51 x52 x53 x54 x55 x56 x57 x58 x59 : T, P [x0, x1, x2, x3, x4, x5, x6, x7, x8, x9, x10, x11, x12, x13, x14, x15, x16, x17, x18, x19, x20, x21, x22, x23, x24, x25, x26, x27, x28, x29, x30, x31, x32, x33, x34, x35, x36, x37, x38, x39, x40, x41, x42, x43, x44, x45, x46, x47, x48, x49, x50, x51, x52, x53, x54, x55, x56, x57, x58, x59]) : ∀ xs : List T, xs.length = 60 → P xs := allS (f := True) fun x => all59 (P := fun xs => P (x :: xs)) (h x)
end Go.TI

/- Calls that were carried out before: a table of them. -/
namespace Go.TI
set_option linter.unusedVariables false

mutual
def eqV : T → T → Bool
  | .undef, b => (match b with | .undef => true | _ => false)
  | .bool x, b => (match b with | .bool y => Bool.casesOn x (!y) y | _ => false)
  | .int k n, b => (match b with | .int k' n' => decide (k = k') && decide (n = n') | _ => false)
  | .str s, b => (match b with | .str s' => decide (s = s') | _ => false)
  | .nilp, b => (match b with | .nilp => true | _ => false)
  | .nilf, b => (match b with | .nilf => true | _ => false)
  | .nili, b => (match b with | .nili => true | _ => false)
  | .nilm, b => (match b with | .nilm => true | _ => false)
  | .ewild, b => (match b with | .ewild => true | _ => false)
  | .ptr b ep i j, c => (match c with | .ptr b' ep' i' j' => Nat.beq b b' && Nat.beq ep ep' && Nat.beq i i' && Nat.beq j j' | _ => false)
  | .arr b ep i j f, c => (match c with | .arr b' ep' i' j' f' => Nat.beq b b' && Nat.beq ep ep' && Nat.beq i i' && Nat.beq j j' && Bool.casesOn f (!f') f' | _ => false)
  | .map b, c => (match c with | .map b' => Nat.beq b b' | _ => false)
  | .tree es f, c => (match c with | .tree es' f' => eqVs es es' && Bool.casesOn f (!f') f' | _ => false)
  | .agg es, c => (match c with | .agg es' => eqVs es es' | _ => false)
  | .func f es, c => (match c with | .func f' es' => Nat.beq f f' && eqVs es es' | _ => false)
  | .iface t v, c => (match c with | .iface t' v' => Nat.beq t t' && eqV v v' | _ => false)
  | _, _ => false
def eqVs : List T → List T → Bool
  | [], b => (match b with | [] => true | _ => false)
  | x :: xs, b => (match b with | y :: ys => eqV x y && eqVs xs ys | _ => false)
end

theorem boolEq {x y : Bool} (h : (@Bool.rec (fun _ => Bool) (!y) y x) = true) : x = y := by cases x <;> cases y <;> simp_all

mutual
theorem eqV_eq : (a b : T) → eqV a b = true → a = b
  | .undef, b, h => by cases b <;> first | rfl | simp [eqV] at h
  | .bool x, b, h => by
    cases b <;> first | (simp [eqV] at h; done) | skip
    rename_i y
    have h : (@Bool.rec (fun _ => Bool) (!y) y x) = true := by unfold eqV at h; exact h
    rw [boolEq h]
  | .int k n, b, h => by cases b <;> simp [eqV] at h; obtain ⟨rfl, rfl⟩ := h; rfl
  | .str s, b, h => by cases b <;> simp [eqV] at h; subst h; rfl
  | .nilp, b, h => by cases b <;> first | rfl | simp [eqV] at h
  | .nilf, b, h => by cases b <;> first | rfl | simp [eqV] at h
  | .nili, b, h => by cases b <;> first | rfl | simp [eqV] at h
  | .nilm, b, h => by cases b <;> first | rfl | simp [eqV] at h
  | .ewild, b, h => by cases b <;> first | rfl | simp [eqV] at h
  | .ptr b ep i j, c, h => by cases c <;> simp [eqV] at h; obtain ⟨⟨⟨rfl, rfl⟩, rfl⟩, rfl⟩ := h; rfl
  | .arr b ep i j f, c, h => by
    cases c <;> first | (simp [eqV] at h; done) | skip
    rename_i b' ep' i' j' f'
    have h : (Nat.beq b b' && Nat.beq ep ep' && Nat.beq i i' && Nat.beq j j' && @Bool.rec (fun _ => Bool) (!f') f' f) = true := by unfold eqV at h; exact h
    simp only [Bool.and_eq_true] at h
    obtain ⟨⟨⟨⟨h1, h2⟩, h3⟩, h4⟩, h5⟩ := h
    rw [Nat.eq_of_beq_eq_true h1, Nat.eq_of_beq_eq_true h2, Nat.eq_of_beq_eq_true h3, Nat.eq_of_beq_eq_true h4, boolEq h5]
  | .map b, c, h => by cases c <;> simp [eqV] at h; subst h; rfl
  | .tree es f, c, h => by
    cases c <;> first | (simp [eqV] at h; done) | skip
    rename_i es' f'
    have h : (eqVs es es' && @Bool.rec (fun _ => Bool) (!f') f' f) = true := by unfold eqV at h; exact h
    simp only [Bool.and_eq_true] at h
    rw [eqVs_eq es es' h.1, boolEq h.2]
  | .agg es, c, h => by
    cases c <;> first | (simp [eqV] at h; done) | skip
    rename_i es'
    have h : eqVs es es' = true := by unfold eqV at h; exact h
    rw [eqVs_eq es es' h]
  | .func f es, c, h => by
    cases c <;> first | (simp [eqV] at h; done) | skip
    rename_i f' es'
    have h : (Nat.beq f f' && eqVs es es') = true := by unfold eqV at h; exact h
    simp only [Bool.and_eq_true] at h
    rw [Nat.eq_of_beq_eq_true h.1, eqVs_eq es es' h.2]
  | .iface t v, c, h => by
    cases c <;> first | (simp [eqV] at h; done) | skip
    rename_i t' v'
    have h : (Nat.beq t t' && eqV v v') = true := by unfold eqV at h; exact h
    simp only [Bool.and_eq_true] at h
    rw [Nat.eq_of_beq_eq_true h.1, eqV_eq v v' h.2]
  | .tptr _, b, h => by simp [eqV] at h
  | .iter _, b, h => by simp [eqV] at h
  | .tuple _, b, h => by simp [eqV] at h
theorem eqVs_eq : (a b : List T) → eqVs a b = true → a = b
  | [], b, h => by cases b <;> first | rfl | simp [eqVs] at h
  | x :: xs, b, h => by
    cases b <;> first | (simp [eqVs] at h; done) | skip
    rename_i y ys
    have h : (eqV x y && eqVs xs ys) = true := by unfold eqVs at h; exact h
    simp only [Bool.and_eq_true] at h
    rw [eqV_eq x y h.1, eqVs_eq xs ys h.2]
end

def eqBox (a b : Box) : Bool := Nat.beq a.sz b.sz && Nat.beq a.ep b.ep && Nat.beq a.ver b.ver && Bool.casesOn a.exact (!b.exact) b.exact && Bool.casesOn a.it (!b.it) b.it && eqVs a.elems b.elems
theorem eqBox_eq {a b : Box} (h : eqBox a b = true) : a = b := by
  obtain ⟨a1, a2, a3, a4, a5, a6⟩ := a
  obtain ⟨b1, b2, b3, b4, b5, b6⟩ := b
  have h : (Nat.beq a1 b1 && Nat.beq a2 b2 && Nat.beq a3 b3 && @Bool.rec (fun _ => Bool) (!b4) b4 a4 && @Bool.rec (fun _ => Bool) (!b5) b5 a5 && eqVs a6 b6) = true := h
  simp only [Bool.and_eq_true] at h
  obtain ⟨⟨⟨⟨⟨h1, h2⟩, h3⟩, h4⟩, h5⟩, h6⟩ := h
  rw [Nat.eq_of_beq_eq_true h1, Nat.eq_of_beq_eq_true h2, Nat.eq_of_beq_eq_true h3, boolEq h4, boolEq h5, eqVs_eq _ _ h6]
def eqBoxes : List Box → List Box → Bool
  | [], b => (match b with | [] => true | _ => false)
  | x :: xs, b => (match b with | y :: ys => eqBox x y && eqBoxes xs ys | _ => false)
theorem eqBoxes_eq : ∀ (a b : List Box), eqBoxes a b = true → a = b := by
  intro a
  induction a with
  | nil => intro b h; cases b <;> first | rfl | simp [eqBoxes] at h
  | cons x xs ih =>
    intro b h
    cases b with
    | nil => simp [eqBoxes] at h
    | cons y ys =>
      simp only [eqBoxes, Bool.and_eq_true] at h
      rw [eqBox_eq h.1, ih ys h.2]
def eqH (a b : H) : Bool := Nat.beq a.size b.size && Nat.beq a.low b.low && eqBoxes a.boxes b.boxes
theorem eqH_eq {a b : H} (h : eqH a b = true) : a = b := by
  obtain ⟨a1, a2, a3⟩ := a
  obtain ⟨b1, b2, b3⟩ := b
  have h : (Nat.beq a1 b1 && Nat.beq a2 b2 && eqBoxes a3 b3) = true := h
  simp only [Bool.and_eq_true] at h
  rw [Nat.eq_of_beq_eq_true h.1.1, Nat.eq_of_beq_eq_true h.1.2, eqBoxes_eq _ _ h.2]

/-- A call that was carried out. -/
structure Ent where
  f : Nat
  args : List T
  h : H
  r : T
  h' : H

noncomputable def findE (es : List Ent) (f : Nat) (args : List T) (h : H) : Option (T × H) :=
  @List.rec Ent (fun _ => Option (T × H)) none (fun e _ ih => Ent.casesOn e fun f' args' h1 r h2 =>
    @Bool.rec (fun _ => Option (T × H)) ih (@Bool.rec (fun _ => Option (T × H)) ih (@Bool.rec (fun _ => Option (T × H)) ih (some (r, h2)) (eqH h h1)) (eqVs args args')) (Nat.beq f f')) es

def CallAt (P : Program) (cx : Ctx) (e : Ent) : Prop :=
  ∀ base w μ (cargs : Array Value), St cx base w.heap μ e.h → RelL w.heap μ e.args cargs.toList → Ran P (AfterG cx base w μ e.h e.r e.h') ((callFunc e.f cargs).run P w)

inductive EntsOk (P : Program) (cx : Ctx) : List Ent → Prop where
  | nil : EntsOk P cx []
  | cons {e : Ent} {es : List Ent} : CallAt P cx e → EntsOk P cx es → EntsOk P cx (e :: es)

theorem findE_ok {P : Program} {cx : Ctx} {es : List Ent} (he : EntsOk P cx es) {f : Nat} {args : List T} {h : H} {r : T} {h' : H} (hh : findE es f args h = some (r, h')) : CallAt P cx ⟨f, args, h, r, h'⟩ := by
  induction he with
  | nil => simp [findE] at hh
  | cons hc _ ih =>
    rename_i e es _
    obtain ⟨f', args', h1, r1, h2⟩ := e
    have hh : @Bool.rec (fun _ => Option (T × H)) (findE es f args h) (@Bool.rec (fun _ => Option (T × H)) (findE es f args h) (@Bool.rec (fun _ => Option (T × H)) (findE es f args h) (some (r1, h2)) (eqH h h1)) (eqVs args args')) (Nat.beq f f') = some (r, h') := hh
    cases b1 : Nat.beq f f' with
    | false => rw [b1] at hh; exact ih hh
    | true =>
      cases b2 : eqVs args args' with
      | false => rw [b1, b2] at hh; exact ih hh
      | true =>
        cases b3 : eqH h h1 with
        | false => rw [b1, b2, b3] at hh; exact ih hh
        | true =>
          rw [b1, b2, b3] at hh
          have hh : some (r1, h2) = some (r, h') := hh
          simp only [Option.some.injEq, Prod.mk.injEq] at hh
          obtain ⟨rfl, rfl⟩ := hh
          rw [Nat.eq_of_beq_eq_true b1, eqVs_eq _ _ b2, eqH_eq b3]
          exact hc

noncomputable def memo (es : List Ent) (ft : FuncId → Option Quick) : FuncId → Option Quick := fun f =>
  Option.casesOn (ft f) none fun g => some fun cf n args h => Option.casesOn (findE es f args h) (g cf n args h) fun p => some p

theorem memo_ok {P : Program} {cx : Ctx} {es : List Ent} {ft : FuncId → Option Quick} (he : EntsOk P cx es) (hq : ∀ f g, ft f = some g → QuickOk P cx f g) : ∀ f g, memo es ft f = some g → QuickOk P cx f g := by
  intro f g hg
  unfold memo at hg
  cases hf : ft f with
  | none => rw [hf] at hg; simp at hg
  | some g0 =>
    rw [hf] at hg
    simp only [Option.some.injEq] at hg
    subst hg
    intro cf ck n args h r h' hh base w μ cargs s hL
    have hh : @Option.rec (T × H) (fun _ => Option (T × H)) (g0 cf n args h) (fun p => some p) (findE es f args h) = some (r, h') := hh
    cases hE : findE es f args h with
    | none => rw [hE] at hh; exact hq f g0 hf cf ck n args h r h' hh base w μ cargs s hL
    | some p =>
      rw [hE] at hh
      have hh : some p = some (r, h') := hh
      simp only [Option.some.injEq] at hh
      subst hh
      exact findE_ok he hE base w μ cargs s hL

noncomputable def callM (es : List Ent) (ft : FuncId → Option Quick) (n : Nat) : CallF := callF (memo es ft) n

theorem callM_ok {P : Program} {cx : Ctx} {es : List Ent} {ft : FuncId → Option Quick} (he : EntsOk P cx es) (hq : ∀ f g, ft f = some g → QuickOk P cx f g) (n : Nat) : CallOk P cx (callM es ft n) := callF_sound (memo_ok he hq) n

/-- The next call into the table. -/
theorem EntsOk.next {P : Program} {cx : Ctx} {es : List Ent} {ft : FuncId → Option Quick} (he : EntsOk P cx es) (hq : ∀ f g, ft f = some g → QuickOk P cx f g) {n : Nat} {e : Ent} (hh : callM es ft n e.f e.args e.h = some (e.r, e.h')) : EntsOk P cx (e :: es) :=
  .cons (fun base w μ cargs s hL => callM_ok he hq n e.f e.args e.h e.r e.h' hh base w μ cargs s hL) he
end Go.TI

/- Calls that look at no box stand at every heap: a table of them. -/
namespace Go.TI
set_option linter.unusedVariables false

mutual
def lowB : T → Bool
  | .undef | .bool _ | .int _ _ | .str _ | .nilp | .ewild | .nilf | .nili | .nilm => true
  | .tree es _ => lowBs es
  | .agg es => lowBs es
  | .tuple es => lowBs es
  | .tptr es => lowBs es
  | .func _ es => lowBs es
  | .iface _ v => lowB v
  | _ => false
def lowBs : List T → Bool
  | [] => true
  | x :: xs => lowB x && lowBs xs
end

mutual
theorem lowB_low : (v : T) → lowB v = true → Low 0 v
  | .undef, _ => .undef
  | .bool _, _ => .bool _
  | .int _ _, _ => .int _ _
  | .str _, _ => .str _
  | .nilp, _ => .nilp
  | .ewild, _ => .ewild
  | .nilf, _ => .nilf
  | .nili, _ => .nili
  | .nilm, _ => .nilm
  | .tree es f, h => .tree _ _ fun v hv => by
      obtain ⟨e, he, hx⟩ := List.mem_flatMap.1 hv
      exact (lowBs_low es (by unfold lowB at h; exact h) e he).cells v hx
  | .agg es, h => .agg _ (lowBs_low es (by unfold lowB at h; exact h))
  | .tuple es, h => .tuple _ (lowBs_low es (by unfold lowB at h; exact h))
  | .tptr es, h => .tptr _ (lowBs_low es (by unfold lowB at h; exact h))
  | .func _ es, h => .func _ _ (lowBs_low es (by unfold lowB at h; exact h))
  | .iface _ v, h => .iface _ _ (lowB_low v (by unfold lowB at h; exact h))
  | .ptr _ _ _ _, h => by simp [lowB] at h
  | .arr _ _ _ _ _, h => by simp [lowB] at h
  | .iter _, h => by simp [lowB] at h
  | .map _, h => by simp [lowB] at h
theorem lowBs_low : (l : List T) → lowBs l = true → ∀ v ∈ l, Low 0 v
  | [], _ => fun v hv => by simp at hv
  | x :: xs, h => fun v hv => by
      unfold lowBs at h
      rw [Bool.and_eq_true] at h
      have h1 := lowB_low x h.1
      rcases List.mem_cons.1 hv with k | hv
      · rw [k]; exact h1
      · exact lowBs_low xs h.2 v hv
end

/-- What leads to no box stands under every lay of the boxes that leaves its blocks alone. -/
theorem RelV.move {hp : Array Obj} {μ μ' : Mu} {v : T} {c : Value} (h : RelV hp μ v c) (hm : ∀ i, InMu μ' i → InMu μ i) (hl : Low 0 v) : RelV hp μ' v c := by
  induction h with
  | undef => exact .undef
  | bool b => exact .bool b
  | int k m => exact .int k m
  | str s h => exact .str s h
  | nilp => exact .nilp
  | ptr b ep i j L a hb he ha => cases hl with | ptr _ _ _ _ h => omega
  | tptr cells blk off arr t fz hn hh hs hc hr ih =>
    cases hl with | tptr _ h => exact .tptr cells blk off arr t fz (fun k => hn (hm _ k)) hh hs hc fun k v hk => ih k v hk (h v (List.mem_of_getElem? hk))
  | tree0 full a => exact .tree0 full a
  | tree e es full blk off cap sz arr t fz hn hh hl' hf hu hs hc hr ih =>
    cases hl with | tree _ _ h => exact .tree e es full blk off cap sz arr t fz (fun k => hn (hm _ k)) hh hl' hf hu hs hc fun k v hk => ih k v hk (h v (List.mem_of_getElem? hk))
  | ewild a cap => exact .ewild a cap
  | arr b ep o l full L a cp hb he hl' h' => cases hl with | arr _ _ _ _ _ h => omega
  | func f caps cs hs hr ih => cases hl with | func _ _ h => exact .func f caps cs hs fun k v hk => ih k v hk (h v (List.mem_of_getElem? hk))
  | nilf => exact .nilf
  | nili => exact .nili
  | iface t v c h ih => cases hl with | iface _ _ h => exact .iface t v c (ih h)
  | iter b L a hb h' => cases hl with | iter _ h => omega
  | map b L i hb h' => cases hl with | map _ h => omega
  | nilm => exact .nilm
  | agg cells cs hs hc hr ih => cases hl with | agg _ h => exact .agg cells cs hs hc fun k v hk => ih k v hk (h v (List.mem_of_getElem? hk))
  | tuple vs cs hs hr ih => cases hl with | tuple _ h => exact .tuple vs cs hs fun k v hk => ih k v hk (h v (List.mem_of_getElem? hk))

def PureAt (P : Program) (cx : Ctx) (f : Nat) (args : List T) (r : T) : Prop :=
  ∀ base w μ (cargs : Array Value) (h : H), St cx base w.heap μ h → RelL w.heap μ args cargs.toList → Ran P (AfterG cx base w μ h r h) ((callFunc f cargs).run P w)

theorem pure_of {P : Program} {cx : Ctx} {f : Nat} {args : List T} {r : T} (hl : ∀ v ∈ args, Low 0 v) (hc : CallAt P cx ⟨f, args, ⟨0, 0, []⟩, r, ⟨0, 0, []⟩⟩) : PureAt P cx f args r := by
  intro base w μ cargs h s hL
  have hin : ∀ i, InMu ⟨fun _ => none, InMu μ⟩ i → InMu μ i := by
    rintro i (⟨b, L, hb, _⟩ | hr)
    · simp at hb
    · exact hr
  have hlt : ∀ i, InMu μ i → i < w.heap.size := by
    rintro i (⟨b, L, hb, rfl⟩ | hr)
    · exact s.lt hb
    · exact s.resLt i hr
  have s0 : St cx w.heap.size w.heap ⟨fun _ => none, InMu μ⟩ ⟨0, 0, []⟩ := by
    refine ⟨rfl, Nat.le_refl _, fun b L hb => by simp at hb, fun b b' L L' hb => by simp at hb, fun b L hb => by simp at hb, fun b L hb => by simp at hb, fun i hr => hlt i hr, fun g cs hg => ?_⟩
    have := s.glob g cs hg
    refine this.move hin ?_
    obtain ⟨_, _, _, _, _, _, _, _, _, hsh, _⟩ := this.inv_tptr
    exact .tptr _ fun v hv => (hsh v hv).2.low 0
  have hL0 : RelL w.heap ⟨fun _ => none, InMu μ⟩ args cargs.toList := ⟨hL.1, fun k v hv => (hL.2 k v hv).move hin (hl v (List.mem_of_getElem? hv))⟩
  refine (hc w.heap.size w ⟨fun _ => none, InMu μ⟩ cargs s0 hL0).mono fun v w' ⟨⟨μ1, k1, k2, k3, k4⟩, k5⟩ => ?_
  have hres : ∀ i, InMu μ i → InMu μ1 i := fun i hi => .inr (by rw [k3.ext.res]; exact hi)
  have hext : Ext w.heap μ w'.heap μ := by
    refine ⟨k3.ext.size, fun i hi hn => ⟨(k3.ext.old i hi (fun k => hn (hin i k))).1, hn⟩, fun b L hb => ⟨L, hb, .inl rfl⟩, rfl, fun i hi hr => ?_⟩
    exact k3.ext.kept i hi (.inr hr)
  have hblk : ∀ b L, μ b = some L → w'.heap[L.blk]? = w.heap[L.blk]? := fun b L hb => k3.ext.kept L.blk (s.lt hb) (.inl ⟨b, L, hb, rfl⟩)
  refine ⟨⟨μ, k1.move hres (k1.low fun b L hb => k2.get_lt hb), ⟨s.wf, Nat.le_trans s.fit k3.ext.size, fun b L hb => ?_, s.inj, s.low, s.apart, fun i hr => Nat.lt_of_lt_of_le (s.resLt i hr) k3.ext.size, fun g cs hg => (s.glob g cs hg).ext hext⟩, ⟨hext, k3.os, k3.tape, k3.output⟩, Dom.refl _ _⟩, Grow.refl s.wf⟩
  obtain ⟨x, hx, hok⟩ := s.box b L hb
  exact ⟨x, hx, hok.ext hext (hblk b L hb)⟩

/-- Lists of values, the last first. -/
def eqVsR : List T → List T → Bool
  | [], b => (match b with | [] => true | _ => false)
  | x :: xs, b => (match b with | y :: ys => eqVsR xs ys && eqV x y | _ => false)
theorem eqVsR_eq : ∀ (a b : List T), eqVsR a b = true → a = b := by
  intro a
  induction a with
  | nil => intro b h; cases b <;> first | rfl | simp [eqVsR] at h
  | cons x xs ih =>
    intro b h
    cases b with
    | nil => simp [eqVsR] at h
    | cons y ys =>
      simp only [eqVsR, Bool.and_eq_true] at h
      rw [eqV_eq _ _ h.2, ih ys h.1]

abbrev PTab := List (Nat × List (List T × T))

noncomputable def findA (l : List (List T × T)) (args : List T) : Option T :=
  @List.rec (List T × T) (fun _ => Option T) none (fun e _ ih => Prod.casesOn e fun a r => @Bool.rec (fun _ => Option T) ih (some r) (eqVsR args a)) l
noncomputable def findP (t : PTab) (f : Nat) (args : List T) : Option T :=
  @List.rec (Nat × List (List T × T)) (fun _ => Option T) none (fun e _ ih => Prod.casesOn e fun f' l => @Bool.rec (fun _ => Option T) ih (Option.casesOn (findA l args) ih fun r => some r) (Nat.beq f f')) t

inductive POk (P : Program) (cx : Ctx) : PTab → Prop where
  | nil : POk P cx []
  | new {f : Nat} {t : PTab} : POk P cx t → POk P cx ((f, []) :: t)
  | ent {f : Nat} {a : List T} {r : T} {l : List (List T × T)} {t : PTab} : PureAt P cx f a r → POk P cx ((f, l) :: t) → POk P cx ((f, (a, r) :: l) :: t)

theorem POk.mem {P : Program} {cx : Ctx} {t : PTab} (h : POk P cx t) : ∀ f l, (f, l) ∈ t → ∀ a r, (a, r) ∈ l → PureAt P cx f a r := by
  induction h with
  | nil => intro f l h; simp at h
  | new _ ih =>
    intro f l h a r hr
    rcases List.mem_cons.1 h with k | k
    · simp only [Prod.mk.injEq] at k; obtain ⟨_, rfl⟩ := k; simp at hr
    · exact ih f l k a r hr
  | ent hp _ ih =>
    intro f l h a r hr
    rcases List.mem_cons.1 h with k | k
    · simp only [Prod.mk.injEq] at k; obtain ⟨rfl, rfl⟩ := k
      rcases List.mem_cons.1 hr with q | q
      · simp only [Prod.mk.injEq] at q; obtain ⟨rfl, rfl⟩ := q; exact hp
      · exact ih _ _ (List.mem_cons_self ..) a r q
    · exact ih f l (List.mem_cons_of_mem _ k) a r hr

theorem findA_mem {l : List (List T × T)} {args : List T} {r : T} (hh : findA l args = some r) : (args, r) ∈ l := by
  induction l with
  | nil => simp [findA] at hh
  | cons e l ih =>
    obtain ⟨a, r1⟩ := e
    have hh : @Bool.rec (fun _ => Option T) (findA l args) (some r1) (eqVsR args a) = some r := hh
    cases hb : eqVsR args a with
    | false => rw [hb] at hh; exact List.mem_cons_of_mem _ (ih hh)
    | true =>
      rw [hb] at hh
      have hh : some r1 = some r := hh
      simp only [Option.some.injEq] at hh; subst hh
      rw [eqVsR_eq _ _ hb]; exact List.mem_cons_self ..

theorem findP_mem {t : PTab} {f : Nat} {args : List T} {r : T} (hh : findP t f args = some r) : ∃ l, (f, l) ∈ t ∧ (args, r) ∈ l := by
  induction t with
  | nil => simp [findP] at hh
  | cons e t ih =>
    obtain ⟨f', l⟩ := e
    have hh : @Bool.rec (fun _ => Option T) (findP t f args) (@Option.rec T (fun _ => Option T) (findP t f args) (fun r => some r) (findA l args)) (Nat.beq f f') = some r := hh
    have rest : findP t f args = some r → ∃ l', (f, l') ∈ (f', l) :: t ∧ (args, r) ∈ l' := fun k => by
      obtain ⟨l', h1, h2⟩ := ih k
      exact ⟨l', List.mem_cons_of_mem _ h1, h2⟩
    cases hb : Nat.beq f f' with
    | false => rw [hb] at hh; exact rest hh
    | true =>
      rw [hb] at hh
      cases hA : findA l args with
      | none => rw [hA] at hh; exact rest hh
      | some q =>
        rw [hA] at hh
        have hh : some q = some r := hh
        simp only [Option.some.injEq] at hh; subst hh
        rw [Nat.eq_of_beq_eq_true hb]
        exact ⟨l, List.mem_cons_self .., findA_mem hA⟩

noncomputable def memoP (t : PTab) (ft : FuncId → Option Quick) : FuncId → Option Quick := fun f =>
  Option.casesOn (ft f) none fun g => some fun cf n args h => Option.casesOn (findP t f args) (g cf n args h) fun r => some (r, h)

theorem memoP_ok {P : Program} {cx : Ctx} {t : PTab} {ft : FuncId → Option Quick} (he : POk P cx t) (hq : ∀ f g, ft f = some g → QuickOk P cx f g) : ∀ f g, memoP t ft f = some g → QuickOk P cx f g := by
  intro f g hg
  unfold memoP at hg
  cases hf : ft f with
  | none => rw [hf] at hg; simp at hg
  | some g0 =>
    rw [hf] at hg
    simp only [Option.some.injEq] at hg
    subst hg
    intro cf ck n args h r h' hh base w μ cargs s hL
    have hh : @Option.rec T (fun _ => Option (T × H)) (g0 cf n args h) (fun r => some (r, h)) (findP t f args) = some (r, h') := hh
    cases hE : findP t f args with
    | none => rw [hE] at hh; exact hq f g0 hf cf ck n args h r h' hh base w μ cargs s hL
    | some p =>
      rw [hE] at hh
      have hh : some (p, h) = some (r, h') := hh
      simp only [Option.some.injEq, Prod.mk.injEq] at hh
      obtain ⟨rfl, rfl⟩ := hh
      obtain ⟨l, h1, h2⟩ := findP_mem hE
      exact he.mem f l h1 args p h2 base w μ cargs h s hL

noncomputable def callP (t : PTab) (ft : FuncId → Option Quick) (n : Nat) : CallF := callF (memoP t ft) n

theorem callP_ok {P : Program} {cx : Ctx} {t : PTab} {ft : FuncId → Option Quick} (he : POk P cx t) (hq : ∀ f g, ft f = some g → QuickOk P cx f g) (n : Nat) : CallOk P cx (callP t ft n) := callF_sound (memoP_ok he hq) n

/-- The next call into the table. -/
theorem POk.next {P : Program} {cx : Ctx} {t : PTab} {ft : FuncId → Option Quick} (hq : ∀ f g, ft f = some g → QuickOk P cx f g) {n : Nat} {f : Nat} {l : List (List T × T)} (he : POk P cx ((f, l) :: t)) {a : List T} {r : T}
    (hl : lowBs a = true) (hh : callP ((f, l) :: t) ft n f a ⟨0, 0, []⟩ = some (r, ⟨0, 0, []⟩)) : POk P cx ((f, (a, r) :: l) :: t) :=
  .ent (pure_of (lowBs_low a hl) fun base w μ cargs s hL => callP_ok he hq n f a ⟨0, 0, []⟩ r ⟨0, 0, []⟩ hh base w μ cargs s hL) he
end Go.TI

/- From the interpreter's answer to a contract of the program's call; the listed variables. -/
namespace Go.TI
set_option linter.unusedVariables false

def noMu : Mu := ⟨fun _ => none, fun _ => False⟩

theorem heap_of_var {P : Program} {w : World} {n : String} {g : Nat} {cs : Array Value} (hg : P.globalNamed n = some g) (h : w.var? P n = some cs) : ∃ t fz, w.heap[g]? = some (.cells cs t fz) := by
  simp only [World.var?, hg, Option.bind_some] at h
  split at h
  · rename_i c t fz he
    simp only [Option.some.injEq] at h; subst h
    exact ⟨t, fz, he⟩
  · simp at h

/-- An array whose elements are one cell each, listed. -/
theorem glob_array {P : Program} {w : World} {name : String} {g k : Nat} {t e : TypeId} (hg : P.globalNamed name = some g) (htg : (P.globals[g]?).map (·.type) = some t) (ht : P.underlying t = some (.array k e)) (hce : P.cellsOf e = 1)
    (hct : P.cellsOf t = k) {ds : List (DataW Unit)} {cs : List T} (hl : cs.length = k) (hsh : ∀ c ∈ cs, Shut c)
    (hel : ∀ (i : Nat) d v fuel p c, ds[i]? = some d → cs[i]? = some v → DataW.trod (fun _ => ()) P w 0 (fun _ => true) false fuel e [c] = some (d, p) → RelV w.heap noMu v c)
    (h : Lib.VarReads P w name (.agg ds)) : RelV w.heap noMu (.tptr cs) (.pointer (some ⟨g, 0, none⟩)) := by
  obtain ⟨g', t', vs, fuel, p, h1, h2, h3, h4⟩ := h
  obtain rfl := Option.some.inj (hg.symm.trans h1)
  obtain rfl := Option.some.inj (htg.symm.trans h2)
  obtain ⟨t2, fz, hheap⟩ := heap_of_var hg h3
  obtain ⟨xs, m, rfl, hx, hlen, hn, hall⟩ := DataW.trod_array ht h4
  simp only [Prod.mk.injEq, DataW.agg.injEq] at hx
  rw [hce] at hall
  rw [hct] at hlen
  have hvs : vs.size = k := by simpa using hlen
  refine .tptr cs g 0 vs t2 fz (fun hin => ?_) hheap (by omega) hsh fun i v hv => ?_
  · rcases hin with ⟨b, L, hb, _⟩ | hr
    · simp [noMu] at hb
    · exact hr
  · have hi : i < k := by
      rcases Nat.lt_or_ge i cs.length with y | y
      · omega
      · rw [List.getElem?_eq_none y] at hv; simp at hv
    have h0 := hall i hi
    have hcut : (vs.toList.drop (i * 1)).take 1 = [vs.getD i Go.undef] := by
      rw [Nat.mul_one, List.drop_eq_getElem_cons (by simpa [hvs] using hi)]
      have : i < vs.size := by omega
      simp [Array.getD_eq_getD_getElem?, this]
    rw [hcut] at h0
    obtain ⟨x, hxi⟩ : ∃ x, xs[i]? = some x := ⟨xs[i]'(by omega), by simp⟩
    rw [hxi] at h0
    obtain ⟨d, q⟩ := x
    rw [Nat.zero_add]
    refine hel i d v m q _ ?_ hv h0
    rw [hx.1, List.getElem?_map, hxi]; rfl

theorem glob_strings {P : Program} {w : World} {name : String} {g k : Nat} {t e : TypeId} (hg : P.globalNamed name = some g) (htg : (P.globals[g]?).map (·.type) = some t) (ht : P.underlying t = some (.array k e)) (he : P.underlying e = some .string)
    (hce : P.cellsOf e = 1) (hct : P.cellsOf t = k) {ss : List (List UInt8)} (hl : ss.length = k) {cs : List T} (hcs : cs = ss.map fun s => T.str (s.map UInt8.toNat))
    (h : Lib.VarReads P w name (.agg (ss.map fun s => .lit (.string s)))) : RelV w.heap noMu (.tptr cs) (.pointer (some ⟨g, 0, none⟩)) := by
  subst hcs
  refine glob_array hg htg ht hce hct (by simpa using hl) (fun c hc => ?_) (fun i d v fuel p c hd hv htr => ?_) h
  · obtain ⟨s, _, rfl⟩ := List.mem_map.1 hc
    exact ⟨rfl, .str _⟩
  · obtain ⟨s, hz, hx, _⟩ := DataW.trod_string he htr
    simp only [List.cons.injEq, and_true] at hz
    subst hz
    rw [List.getElem?_map] at hd hv
    cases hs : ss[i]? with
    | none => rw [hs] at hd; simp at hd
    | some s0 =>
      rw [hs] at hd hv
      simp only [Option.map_some, Option.some.injEq] at hd hv
      subst hd hv
      simp only [Prod.mk.injEq, DataW.lit.injEq, Lit.string.injEq] at hx
      have hb : bytesOf (s0.map UInt8.toNat) = s := by
        rw [hx.1, bytesOf_toNat]
      have := RelV.str (hp := w.heap) (μ := noMu) (s0.map UInt8.toNat) (by intro c hc; simp at hc; obtain ⟨a, _, rfl⟩ := hc; exact a.toNat_lt)
      rwa [hb] at this

theorem glob_ints {P : Program} {w : World} {name : String} {g k : Nat} {t e : TypeId} {ki : IntKind} (hg : P.globalNamed name = some g) (htg : (P.globals[g]?).map (·.type) = some t) (ht : P.underlying t = some (.array k e))
    (he : P.underlying e = some (.int ki)) (hce : P.cellsOf e = 1) (hct : P.cellsOf t = k) {zs : List Int} (hl : zs.length = k) {cs : List T} (hcs : cs = zs.map fun z => T.int ki z)
    (h : Lib.VarReads P w name (.agg (zs.map fun z => .lit (.int ki z)))) : RelV w.heap noMu (.tptr cs) (.pointer (some ⟨g, 0, none⟩)) := by
  subst hcs
  refine glob_array hg htg ht hce hct (by simpa using hl) (fun c hc => ?_) (fun i d v fuel p c hd hv htr => ?_) h
  · obtain ⟨s, _, rfl⟩ := List.mem_map.1 hc
    exact ⟨rfl, .int _ _⟩
  · obtain ⟨z, hz, hx, _⟩ := DataW.trod_int he htr
    simp only [List.cons.injEq, and_true] at hz
    subst hz
    rw [List.getElem?_map] at hd hv
    cases hs : zs[i]? with
    | none => rw [hs] at hd; simp at hd
    | some s0 =>
      rw [hs] at hd hv
      simp only [Option.map_some, Option.some.injEq] at hd hv
      subst hd hv
      simp only [Prod.mk.injEq, DataW.lit.injEq, Lit.int.injEq, true_and] at hx
      rw [← hx.1]
      exact .int _ _

/-- A call that the interpreter carries out with no argument, to 'true', returns true and leaves all that was there as it was. -/
theorem calls_true {P : Program} {cx : Ctx} {cf : CallF} (ck : CallOk P cx cf) {F : FuncId} {fn : Func} {c : Code} {h' : H} (hF : P.funcs[F]? = some fn) (hname : (fn.name == "runtime.NumGoroutine") = false) (hb : fn.body = some c)
    (hrun : cf F [] ⟨0, 0, []⟩ = some (.bool true, h')) (W : World) (hgl : ∀ g cs, cx.gl g = some cs → RelV W.heap noMu (.tptr cs) (.pointer (some ⟨g, 0, none⟩))) :
    Calls P F #[] W fun e W' => e = .returned (.bool true) ∧ RowKit.Below W.heap.size W W' := by
  have s : St cx W.heap.size W.heap noMu ⟨0, 0, []⟩ :=
    ⟨rfl, Nat.le_refl _, fun b L hb => by simp [noMu] at hb, fun b b' L L' hb => by simp [noMu] at hb, fun b L hb => by simp [noMu] at hb, fun b L hb => by simp [noMu] at hb, fun i hr => hr.elim, hgl⟩
  have h1 := ck F [] ⟨0, 0, []⟩ (.bool true) h' hrun W.heap.size W noMu #[] s RelL.nil
  rw [run_callFunc_enter hF hname hb] at h1
  have h1 : Calls P F #[] W fun
    | .returned v, w'' => AfterG cx W.heap.size W noMu ⟨0, 0, []⟩ (.bool true) h' v w''
    | _, _ => False := h1
  refine h1.mono fun e W' he => ?_
  cases e with
  | returned v =>
    obtain ⟨⟨μ', k1, k2, k3, k4⟩, _⟩ := he
    refine ⟨by rw [k1.inv_bool], k3.os, k3.tape, k3.output, k3.ext.size, fun k hk => (k3.ext.old k hk ?_).1⟩
    rintro (⟨b, L, hb, _⟩ | hr)
    · simp [noMu] at hb
    · exact hr
  | _ => exact he.elim
end Go.TI

/- Contracts of functions for every argument: what a quick function comes to, by conditions ahead. -/
namespace Go.TI
set_option linter.unusedVariables false

/-! ### slots -/
noncomputable def put (vs : Vars) (s : Nat) (v : T) : Vars := (setVar vs s v).getD vs
theorem setVar_put (vs : Vars) (s : Nat) (v : T) : setVar vs s v = some (put vs s v) := by
  have : ∃ r, setVar vs s v = some r := by
    induction vs with
    | nil => exact ⟨_, rfl⟩
    | cons k u r ih =>
      obtain ⟨t, ht⟩ := ih
      cases hb : Nat.beq k s with
      | true => exact ⟨.cons k v r, by show @Bool.rec (fun _ => Option Vars) _ _ (Nat.beq k s) = _; rw [hb]⟩
      | false => exact ⟨.cons k u t, by show @Bool.rec (fun _ => Option Vars) (bnd (setVar r s v) fun t => some (.cons k u t)) _ (Nat.beq k s) = _; rw [hb, ht]; rfl⟩
  obtain ⟨r, hr⟩ := this
  rw [hr]; unfold put; rw [hr]; rfl
theorem look_cons2 (k : Nat) (v : T) (r : Vars) (s : Nat) : look (.cons k v r) s = if k = s then some v else look r s := by
  show @Bool.rec (fun _ => Option T) (look r s) (some v) (Nat.beq k s) = _
  cases hb : Nat.beq k s with
  | true => rw [if_pos (Nat.eq_of_beq_eq_true hb)]
  | false => rw [if_neg (Nat.ne_of_beq_eq_false hb)]
theorem look_nil2 (s : Nat) : look .nil s = none := rfl
theorem look_put (vs : Vars) (s : Nat) (v : T) (j : Nat) : look (put vs s v) j = if s = j then some v else look vs j := by
  have hp := setVar_put vs s v
  generalize put vs s v = r at hp
  induction vs generalizing r with
  | nil =>
    have hp : some (Vars.cons s v .nil) = some r := hp
    simp only [Option.some.injEq] at hp; subst hp
    rw [look_cons2, look_nil2]
  | cons k u t ih =>
    have hp : @Bool.rec (fun _ => Option Vars) (bnd (setVar t s v) fun t => some (.cons k u t)) (some (.cons k v t)) (Nat.beq k s) = some r := hp
    cases hb : Nat.beq k s with
    | true =>
      rw [hb] at hp
      have hp : some (Vars.cons k v t) = some r := hp
      simp only [Option.some.injEq] at hp; subst hp
      have := Nat.eq_of_beq_eq_true hb
      subst this
      simp only [look_cons2]
      split <;> rfl
    | false =>
      rw [hb] at hp
      have hp : (bnd (setVar t s v) fun t => some (Vars.cons k u t)) = some r := hp
      rw [setVar_put] at hp
      simp only [bnd_some, Option.some.injEq] at hp; subst hp
      have := Nat.ne_of_beq_eq_false hb
      rw [look_cons2, look_cons2, ih _ (setVar_put _ _ _)]
      split
      · rename_i h; subst h; rw [if_neg (fun h => this h.symm)]
      · rfl

/-! ### conditions ahead -/
/-- What is to hold at the end: in order, behind an exit, behind a return. -/
structure Kont where
  n : Env → H → Prop
  x : Nat → Env → H → Prop
  r : Env → H → Prop
def W (o : Out) (K : Kont) : Prop := ∃ x e h, o = some (x, e, h) ∧ Ex.casesOn x (K.n e h) (fun i => K.x i e h) (K.r e h)
@[simp] theorem W_normal (e : Env) (h : H) (K : Kont) : W (some (.normal, e, h)) K = K.n e h := by
  apply propext; constructor
  · rintro ⟨x', e', h', hh, hq⟩
    simp only [Option.some.injEq, Prod.mk.injEq] at hh
    obtain ⟨rfl, rfl, rfl⟩ := hh; exact hq
  · exact fun hq => ⟨_, e, h, rfl, hq⟩
@[simp] theorem W_exit (i : Nat) (e : Env) (h : H) (K : Kont) : W (some (.exit i, e, h)) K = K.x i e h := by
  apply propext; constructor
  · rintro ⟨x', e', h', hh, hq⟩
    simp only [Option.some.injEq, Prod.mk.injEq] at hh
    obtain ⟨rfl, rfl, rfl⟩ := hh; exact hq
  · exact fun hq => ⟨_, e, h, rfl, hq⟩
@[simp] theorem W_ret (e : Env) (h : H) (K : Kont) : W (some (.ret, e, h)) K = K.r e h := by
  apply propext; constructor
  · rintro ⟨x', e', h', hh, hq⟩
    simp only [Option.some.injEq, Prod.mk.injEq] at hh
    obtain ⟨rfl, rfl, rfl⟩ := hh; exact hq
  · exact fun hq => ⟨_, e, h, rfl, hq⟩
theorem W_none (K : Kont) : ¬ W none K := by rintro ⟨x, e, h, hh, _⟩; simp at hh
def kseq (b : Env → H → Out) (K : Kont) : Kont := ⟨fun e h => W (b e h) K, K.x, K.r⟩
def kblock (id : Nat) (K : Kont) : Kont := ⟨K.n, fun i e h => if i = id then K.n e h else K.x i e h, K.r⟩
def kinv (J : Env → H → Prop) (K : Kont) : Kont := ⟨J, K.x, K.r⟩
@[simp] theorem kseq_n (b : Env → H → Out) (K : Kont) (e : Env) (h : H) : (kseq b K).n e h = W (b e h) K := rfl
@[simp] theorem kseq_x (b : Env → H → Out) (K : Kont) (i : Nat) (e : Env) (h : H) : (kseq b K).x i e h = K.x i e h := rfl
@[simp] theorem kseq_r (b : Env → H → Out) (K : Kont) (e : Env) (h : H) : (kseq b K).r e h = K.r e h := rfl
@[simp] theorem kblock_n (id : Nat) (K : Kont) (e : Env) (h : H) : (kblock id K).n e h = K.n e h := rfl
@[simp] theorem kblock_x (id : Nat) (K : Kont) (i : Nat) (e : Env) (h : H) : (kblock id K).x i e h = if i = id then K.n e h else K.x i e h := rfl
@[simp] theorem kblock_r (id : Nat) (K : Kont) (e : Env) (h : H) : (kblock id K).r e h = K.r e h := rfl
@[simp] theorem kinv_n (J : Env → H → Prop) (K : Kont) (e : Env) (h : H) : (kinv J K).n e h = J e h := rfl
@[simp] theorem kinv_x (J : Env → H → Prop) (K : Kont) (i : Nat) (e : Env) (h : H) : (kinv J K).x i e h = K.x i e h := rfl
@[simp] theorem kinv_r (J : Env → H → Prop) (K : Kont) (e : Env) (h : H) : (kinv J K).r e h = K.r e h := rfl
@[simp] theorem W_seq (a b : Env → H → Out) (e : Env) (h : H) (K : Kont) : W (seqT a b e h) K = W (a e h) (kseq b K) := by
  apply propext
  unfold seqT
  cases ha : a e h with
  | none => constructor <;> (rintro ⟨x, e, h, hh, _⟩; simp [bnd] at hh)
  | some r =>
    obtain ⟨x, e1, h1⟩ := r
    simp only [bnd_some, three_mk]
    cases x <;> simp
@[simp] theorem W_block (id : Nat) (a : Env → H → Out) (e : Env) (h : H) (K : Kont) : W (blockT id a e h) K = W (a e h) (kblock id K) := by
  apply propext
  unfold blockT
  cases ha : a e h with
  | none => constructor <;> (rintro ⟨x, e, h, hh, _⟩; simp [bnd] at hh)
  | some r =>
    obtain ⟨x, e1, h1⟩ := r
    simp only [bnd_some, three_mk]
    cases x with
    | normal => simp
    | ret => simp
    | exit i =>
      show W (@Bool.rec (fun _ => Out) (some (.exit i, e1, h1)) (some (.normal, e1, h1)) (Nat.beq i id)) K ↔ _
      cases hb : Nat.beq i id with
      | true =>
        show W (some (.normal, e1, h1)) K ↔ _
        rw [W_normal, W_exit, kblock_x, if_pos (Nat.eq_of_beq_eq_true hb)]
      | false =>
        show W (some (.exit i, e1, h1)) K ↔ _
        rw [W_exit, W_exit, kblock_x, if_neg (Nat.ne_of_beq_eq_false hb)]
/-- A branch. -/
def condV (v : Option T) (a b : Prop) : Prop := match v with
  | some (.bool t) => if t = true then a else b
  | _ => False
@[simp] theorem condV_bool (t : Bool) (a b : Prop) : condV (some (.bool t)) a b = if t = true then a else b := rfl
@[simp] theorem W_cond (s : Nat) (a b : Env → H → Out) (vs tm : Vars) (h : H) (K : Kont) : W (condF s a b ⟨vs, tm⟩ h) K = condV (look vs s) (W (a ⟨vs, tm⟩ h) K) (W (b ⟨vs, tm⟩ h) K) := by
  apply propext
  unfold condF
  simp only
  cases hl : look vs s with
  | none => simp [bnd, condV, W_none]
  | some v =>
    simp only [bnd_some]
    cases v <;> simp only [condV, W_none]
    rename_i t
    cases t <;> simp
/-- A loop, by what stays true and what falls. -/
theorem W_loop {σ : Type} {body : Env → H → Out} (I : σ → Env → H → Prop) (m : σ → Nat) {K : Kont}
    (hb : ∀ s e h, I s e h → W (body e h) (kinv (fun e' h' => ∃ s', m s' < m s ∧ I s' e' h') K)) :
    ∀ n s e h, m s < n → I s e h → W (loopT body n e h) K := by
  intro n
  induction n with
  | zero => intro s e h hm; omega
  | succ n ih =>
    intro s e h hm hI
    obtain ⟨x, e1, h1, he, hw⟩ := hb s e h hI
    show W (bnd (body e h) fun r => three r fun x e' h' => @Ex.rec (fun _ => Out) (loopT body n e' h') (fun i => some (.exit i, e', h')) (some (.ret, e', h')) x) K
    rw [he]
    simp only [bnd_some, three_mk]
    cases x with
    | normal =>
      obtain ⟨s', hm', hI'⟩ := hw
      exact ih s' e1 h1 (by omega) hI'
    | exit i => exact (W_exit _ _ _ _).mpr hw
    | ret => exact (W_ret _ _ _).mpr hw

/-! ### contracts -/
section
variable {P : Program} {cx : Ctx}
def SpOk (P : Program) (cx : Ctx) (sp : FuncId → List T → Option T) : Prop := ∀ f args r, sp f args = some r → PureAt P cx f args r
noncomputable def cfS (sp : FuncId → List T → Option T) : CallF := fun f args h => bnd (sp f args) fun r => some (r, h)
theorem cfS_ok {sp : FuncId → List T → Option T} (hs : SpOk P cx sp) : CallOk P cx (cfS sp) := by
  intro f args h r h' hh base w μ cargs s hL
  have hh : (bnd (sp f args) fun r => some (r, h)) = some (r, h') := hh
  obtain ⟨r', hr, hh⟩ := bnd_eq_some.1 hh
  simp only [Option.some.injEq, Prod.mk.injEq] at hh
  obtain ⟨rfl, rfl⟩ := hh
  exact hs f args r' hr base w μ cargs h s hL
theorem pureQ {f : FuncId} {g : Quick} {sp : FuncId → List T → Option T} (hq : QuickOk P cx f g) (hs : SpOk P cx sp) {args : List T} {r : T} (hl : ∀ v ∈ args, Low 0 v) (n : Nat)
    (hr : g (cfS sp) n args ⟨0, 0, []⟩ = some (r, ⟨0, 0, []⟩)) : PureAt P cx f args r :=
  pure_of hl fun base w μ cargs s hL => hq (cfS sp) (cfS_ok hs) n args ⟨0, 0, []⟩ r ⟨0, 0, []⟩ hr base w μ cargs s hL
/-- The end of a function: what it returns. -/
def kfin (cx : Ctx) (mask : Nat) (keep : Bool) (res : List ResultVar) (r : T) : Kont :=
  ⟨fun e h => (bnd (resultsT cx mask e h res) fun vs => leave keep 0 0 (oneOrTuple vs) h) = some (r, ⟨0, 0, []⟩), fun _ _ _ => False,
   fun e h => (bnd (resultsT cx mask e h res) fun vs => leave keep 0 0 (oneOrTuple vs) h) = some (r, ⟨0, 0, []⟩)⟩
theorem bodyF_W {cf : CallF} {n : Nat} {init : List T → Option Vars} {code : CallF → Nat → Env → H → Out} {res : List ResultVar} {mask : Nat} {keep : Bool} {args : List T} {r : T} {vars : Vars} (hv : init args = some vars)
    (hw : W (code cf n ⟨vars, .nil⟩ ⟨0, 0, []⟩) (kfin cx mask keep res r)) : bodyF cx init code res mask keep cf n args ⟨0, 0, []⟩ = some (r, ⟨0, 0, []⟩) := by
  obtain ⟨x, e, h, ho, hx⟩ := hw
  show (bnd (init args) fun vars => bnd (code cf n ⟨vars, .nil⟩ ⟨0, 0, []⟩) fun r => three r fun x e' h' => @Ex.rec (fun _ => Option (T × H)) _ (fun _ => none) _ x) = _
  rw [hv, bnd_some, ho, bnd_some, three_mk]
  cases x with
  | normal => exact hx
  | exit i => exact hx.elim
  | ret => exact hx
@[simp] theorem kfin_n (mask : Nat) (keep : Bool) (res : List ResultVar) (r : T) (e : Env) (h : H) : (kfin cx mask keep res r).n e h = ((bnd (resultsT cx mask e h res) fun vs => leave keep 0 0 (oneOrTuple vs) h) = some (r, ⟨0, 0, []⟩)) := rfl
@[simp] theorem kfin_r (mask : Nat) (keep : Bool) (res : List ResultVar) (r : T) (e : Env) (h : H) : (kfin cx mask keep res r).r e h = ((bnd (resultsT cx mask e h res) fun vs => leave keep 0 0 (oneOrTuple vs) h) = some (r, ⟨0, 0, []⟩)) := rfl
@[simp] theorem kfin_x (mask : Nat) (keep : Bool) (res : List ResultVar) (r : T) (i : Nat) (e : Env) (h : H) : (kfin cx mask keep res r).x i e h = False := rfl
/-- One result out of a slot that lasts. -/
theorem res1 {mask s : Nat} {vs : Vars} {h : H} (hm : lasts mask s = true) : resultsT cx mask ⟨vs, .nil⟩ h [.tmp s] = bnd (look vs s) fun v => some [v] := by
  show (bnd (Env.get mask ⟨vs, .nil⟩ s) fun y => bnd (some []) fun t => some (y :: t)) = _
  have : Env.get mask ⟨vs, .nil⟩ s = look vs s := by
    show @Bool.rec (fun _ => Option T) (look .nil s) (look vs s) (lasts mask s) = _
    rw [hm]
  rw [this]; rfl
end
end Go.TI

/- More words for the quick functions' texts: slices, maps, iterators, tables. -/
namespace Go.TI
set_option linter.unusedVariables false
noncomputable def optI (x : Option T) : Option (Option Nat) := Option.casesOn x (some none) fun v => bnd (toIdx v) fun n => some (some n)
noncomputable def slV (cx : Ctx) (u : U) (h : H) (x : T) (lo hi mx : Option T) : Option Did :=
  chk (sliceable cx h u x) <| bnd (optI lo) fun lo => bnd (optI hi) fun hi => bnd (optI mx) fun mx => chk (mxOk hi mx) (val h (sliceT (asSlice u x) lo hi mx))
noncomputable def msV (te : Ty) (h : H) (l c : T) : Option Did := bnd (toIdx l) fun l => bnd (toIdx c) fun c =>
  chk (Nat.ble 1 te.size) <| chk (Nat.ble 1 te.bytes) <| chk (Nat.ble l c) (chk (Nat.ble (Nat.mul c te.bytes) 70368744177664) (valNew (h.new (fun b => .arr b 0 0 l false) (newBox te.size (Nat.beq l c) (replicateN te.zeroT l)))))
noncomputable def mmV (h : H) : Option Did := valNew (h.new (fun b => .map b) ⟨0, 0, 0, true, true, []⟩)
noncomputable def luV (u : U) (z : T) (ok : Bool) (h : H) (x k : T) : Option Did := chk (keyOk u k)
  (bnd (h.entries x) fun es => bnd (findEnt u k es 0) fun r => Option.casesOn r
    (Bool.casesOn ok (val h (some z)) (val h (some (.tuple [z, .bool false]))))
    fun p => two p fun _ v => Bool.casesOn ok (val h (some v)) (val h (some (.tuple [v, .bool true]))))
noncomputable def muV (cx : Ctx) (u : U) (h : H) (m k v : T) : Option Did := chk (keyAny cx u k) (chk v.good
  (match m with
  | .map b => bnd (h.get b) fun bx => Box.casesOn bx fun sz ep ver exact it es => chk it (bnd (findAny cx u k es 0) fun r => bnd (normNat (Nat.succ ver)) fun ver' => Option.casesOn r
      (bnd (appN es [.tuple [k, v]]) fun es' => bnd (h.put b ⟨sz, ep, ver', exact, true, es'⟩) fun h' => some (.val .undef h'))
      fun p => two p fun i _ => bnd (setNth es i (.tuple [k, v])) fun es' => bnd (h.put b ⟨sz, ep, ver', exact, true, es'⟩) fun h' => some (.val .undef h'))
  | _ => none))
noncomputable def rgV (h : H) (v : T) : Option Did := match v with
  | .str s => valNew (h.new (fun b => .iter b) ⟨1, 0, 0, true, true, [.str s, .int .i64 0]⟩)
  | _ => none
noncomputable def nxV (h : H) (v : T) : Option Did := match v with
  | .iter b => bnd (h.get b) fun x => chk x.it (match x.elems with
    | [.str s, .int _ (.ofNat pos)] => Bool.casesOn (Nat.blt pos (lenN s)) (some (.val (.tuple [.bool false]) h))
        (bnd (nextChar s pos) fun q => two q fun c wd => bnd (normNat (Nat.add pos wd)) fun pos' => bnd (normNat (Nat.succ x.ver)) fun ver =>
          bnd (h.put b ⟨x.sz, x.ep, ver, x.exact, true, [.str s, .int .i64 (.ofNat pos')]⟩) fun h' =>
            some (.val (.tuple [.bool true, .int .i64 (.ofNat pos), .int .i32 (.ofNat c)]) h'))
    | _ => none)
  | _ => none
noncomputable def baV (cx : Ctx) (sz : Nat) (zero : List T) (h : H) (l : List (Nat × T)) : Option Did :=
  bnd (partsV l) fun ps => bnd (fillCells (fun i => some (Nat.mul i sz, sz)) ps zero) fun cs => val h (some (.agg cs))
end Go.TI

/- Small steps of the quick functions, for values that are known in part. -/
namespace Go.TI
set_option linter.unusedVariables false
@[simp] theorem bn2_some {ρ : Type} (v : T) (h : H) (k : T → H → Option ρ) : bn2 (some (v, h)) k = k v h := rfl
@[simp] theorem bn2_none {ρ : Type} (k : T → H → Option ρ) : bn2 none k = none := rfl
@[simp] theorem fin_did (cf : CallF) (h h' : H) (v : T) : fin cf h (some (.val v h')) = some (v, h') := rfl
@[simp] theorem fin_call (cf : CallF) (h : H) (f : FuncId) (a : List T) : fin cf h (some (.call f a)) = cf f a h := rfl
@[simp] theorem finV_some (h : H) (v : T) : finV h (some v) = some (v, h) := rfl
@[simp] theorem finE_some (h : H) (b : Bool) : finE h true (some b) = some (.bool b, h) := by cases b <;> rfl
@[simp] theorem finN_some (h : H) (b : Bool) : finN h true (some b) = some (.bool (!b), h) := by cases b <;> rfl
@[simp] theorem val_some (h : H) (v : T) : val h (some v) = some (.val v h) := rfl
@[simp] theorem val_none (h : H) : val h none = none := rfl
@[simp] theorem valNew_some (h : H) (v : T) : valNew (some (v, h)) = some (.val v h) := rfl
@[simp] theorem wantV_bool (b w : Bool) : wantV (.bool b) w = some (b == w) := by cases b <;> cases w <;> rfl
@[simp] theorem wantV_undef (w : Bool) : wantV .undef w = some false := rfl
@[simp] theorem pickV_bool (h : H) (t : Bool) (a b : T) : pickV h (.bool t) a b = some (.val (if t = true then a else b) h) := by cases t <;> rfl
@[simp] theorem nilV_int (c : Bool) (k : IntKind) (n : Int) (b : T) : nilV c (.int k n) b = true := rfl
@[simp] theorem nilV_str (c : Bool) (s : List Nat) (b : T) : nilV c (.str s) b = true := rfl
@[simp] theorem nilV_bool (c : Bool) (s : Bool) (b : T) : nilV c (.bool s) b = true := rfl
@[simp] theorem nilV_agg (c : Bool) (s : List T) (b : T) : nilV c (.agg s) b = true := rfl
theorem eqL_dec (a b : List Nat) : eqL a b = decide (a = b) := by rw [eqL_eq, Bool.eq_iff_iff]; simp
theorem eqI_dec (a b : Int) : eqI a b = decide (a = b) := by rw [eqI_eq]; rfl
theorem ltI_dec (a b : Int) : ltI a b = decide (a < b) := ltI_eq a b
@[simp] theorem kEq_self (k : IntKind) : kEq k k = true := by cases k <;> rfl
@[simp] theorem eqCell_int (k' k : IntKind) (a b : Int) : eqCell (.int k') (.int k a) (.int k b) = some (decide (a = b)) := by
  show chk (kEq k k) (some (eqI a b)) = _
  rw [kEq_self, eqI_dec]; rfl
@[simp] theorem eqCell_str (a b : List Nat) : eqCell .str (.str a) (.str b) = some (decide (a = b)) := by
  show some (eqL a b) = _; rw [eqL_dec]
@[simp] theorem eqCell_bool (a b : Bool) : eqCell .bool (.bool a) (.bool b) = some (a == b) := by cases a <;> cases b <;> rfl
@[simp] theorem binop_lss (k : IntKind) (a b : Int) : binop .lss (.int k a) (.int k b) = some (.bool (decide (a < b))) := by
  show chk (kEq k k) (rBool (ltI a b)) = _
  rw [kEq_self, ltI_dec, chk_true, rBool_eq]
@[simp] theorem binop_leq (k : IntKind) (a b : Int) : binop .leq (.int k a) (.int k b) = some (.bool (decide (a ≤ b))) := by
  show chk (kEq k k) (rBool (!ltI b a)) = _
  rw [kEq_self, ltI_dec, chk_true, rBool_eq]; congr 2; rw [Bool.eq_iff_iff]; simp
@[simp] theorem binop_gtr (k : IntKind) (a b : Int) : binop .gtr (.int k a) (.int k b) = some (.bool (decide (b < a))) := by
  show chk (kEq k k) (rBool (ltI b a)) = _
  rw [kEq_self, ltI_dec, chk_true, rBool_eq]
@[simp] theorem binop_geq (k : IntKind) (a b : Int) : binop .geq (.int k a) (.int k b) = some (.bool (decide (b ≤ a))) := by
  show chk (kEq k k) (rBool (!ltI a b)) = _
  rw [kEq_self, ltI_dec, chk_true, rBool_eq]; congr 2; rw [Bool.eq_iff_iff]; simp
theorem wrapF_in {n : Int} (h1 : -9223372036854775808 ≤ n) (h2 : n < 9223372036854775808) : wrapF .i64 n = n := by
  cases n with
  | ofNat m =>
    show @Bool.rec (fun _ => Int) _ _ (Nat.ble m 9223372036854775807) = _
    rw [Nat.ble_eq_true_of_le (by simp at h2; omega)]
  | negSucc m =>
    show @Bool.rec (fun _ => Int) _ _ (Nat.ble m 9223372036854775807) = _
    rw [Nat.ble_eq_true_of_le (by omega)]
theorem rWrap_in {n : Int} (h1 : -9223372036854775808 ≤ n) (h2 : n < 9223372036854775808) : rWrap .i64 n = some (.int .i64 n) := by
  unfold rWrap; rw [wrapF_in h1 h2, rInt_eq]
theorem binop_add {a b : Int} (h1 : -9223372036854775808 ≤ a + b) (h2 : a + b < 9223372036854775808) : binop .add (.int .i64 a) (.int .i64 b) = some (.int .i64 (a + b)) := rWrap_in h1 h2
theorem binop_sub {a b : Int} (h1 : -9223372036854775808 ≤ a - b) (h2 : a - b < 9223372036854775808) : binop .sub (.int .i64 a) (.int .i64 b) = some (.int .i64 (a - b)) := rWrap_in h1 h2
/-- Counting up. -/
theorem binop_succ {i m : Nat} (h : i < m) (hm : m < 9223372036854775808) : binop .add (.int .i64 (i : Int)) (.int .i64 1) = some (.int .i64 ((i + 1 : Nat) : Int)) := by
  rw [binop_add (by omega) (by omega)]; rfl
@[simp] theorem unop_not (b : Bool) : unop .not (.bool b) = some (.bool !b) := by cases b <;> rfl
theorem lenN_len {α : Type} (l : List α) : lenN l = l.length := lenN_eq l
@[simp] theorem toIdx_nat (k : IntKind) (n : Nat) : toIdx (.int k (n : Int)) = some n := rfl
@[simp] theorem toIdx_0 (k : IntKind) : toIdx (.int k 0) = some 0 := rfl
@[simp] theorem lenS_tree (h : H) (es : List T) (f : Bool) : lenS h (.tree es f) = some (.val (.int .i64 (es.length : Nat)) h) := by
  show val h (bnd (normNat (lenN es)) fun n => some (.int .i64 (.ofNat n))) = _
  rw [lenN_len, normNat_eq]; rfl
@[simp] theorem lenS_wild (h : H) : lenS h .ewild = some (.val (.int .i64 0) h) := rfl
@[simp] theorem lenT_str (h : H) (s : List Nat) : lenT h (.str s) = some (.val (.int .i64 (s.length : Nat)) h) := by
  show val h (bnd (normNat (lenN s)) fun n => some (.int .i64 (.ofNat n))) = _
  rw [lenN_len, normNat_eq]; rfl
theorem iaV_tree (h : H) (te : Ty) {es : List T} (f : Bool) {i : Nat} {x : T} {k : IntKind} (hx : es[i]? = some x) (hs : x.cells.length = te.size) : iaV h te (.tree es f) (.int k (i : Int)) = some (.val (.tptr x.cells) h) := by
  show (bnd (nthD es i) fun v => chk (Nat.beq (lenN v.cells) te.size) (some (Did.val (.tptr v.cells) h))) = _
  rw [nthD_eq, hx, bnd_some, lenN_len, hs, Nat.beq_refl]; rfl
@[simp] theorem iaV_t (h : H) (te : Ty) (es : List T) (f : Bool) (i : Nat) (k : IntKind) : iaV h te (.tree es f) (.int k (i : Int)) = bnd (es[i]?) fun v => chk (Nat.beq v.cells.length te.size) (some (Did.val (.tptr v.cells) h)) := by
  show (bnd (nthD es i) fun v => chk (Nat.beq (lenN v.cells) te.size) (some (Did.val (.tptr v.cells) h))) = _
  rw [nthD_eq]
  simp only [lenN_len]
@[simp] theorem cells_str (s : List Nat) : (T.str s).cells = [.str s] := id rfl
@[simp] theorem cells_int (k : IntKind) (n : Int) : (T.int k n).cells = [.int k n] := id rfl
@[simp] theorem cells_bool (b : Bool) : (T.bool b).cells = [.bool b] := id rfl
@[simp] theorem cells_tree (es : List T) (f : Bool) : (T.tree es f).cells = [.tree es f] := id rfl
@[simp] theorem cells_wild : T.ewild.cells = [.ewild] := id rfl
@[simp] theorem cells_agg (cs : List T) : (T.agg cs).cells = cs := id rfl
@[simp] theorem beq_nat (a b : Nat) : Nat.beq a b = decide (a = b) := by
  rw [Bool.eq_iff_iff]; simp
@[simp] theorem ble_nat (a b : Nat) : Nat.ble a b = decide (a ≤ b) := by
  rw [Bool.eq_iff_iff]; simp
@[simp] theorem blt_nat (a b : Nat) : Nat.blt a b = decide (a < b) := by
  rw [Bool.eq_iff_iff, Nat.blt_eq]; simp
@[simp] theorem good_str (s : List Nat) : (T.str s).good = true := id rfl
@[simp] theorem good_int (k : IntKind) (n : Int) : (T.int k n).good = true := id rfl
@[simp] theorem good_bool (b : Bool) : (T.bool b).good = true := id rfl
@[simp] theorem good_tree (es : List T) (f : Bool) : (T.tree es f).good = true := id rfl
@[simp] theorem good_agg (cs : List T) : (T.agg cs).good = true := id rfl
@[simp] theorem faV_tptr (off : Nat) (h : H) (cs : List T) : faV off h (.tptr cs) = bnd (dropN off cs) fun cs' => some (Did.val (.tptr cs') h) := rfl
@[simp] theorem load_tptr (h : H) (t : Ty) (cs : List T) : h.load t (.tptr cs) = readAs t cs := rfl
@[simp] theorem dropN_0 {α : Type} (l : List α) : dropN 0 l = some l := rfl
@[simp] theorem dropN_s {α : Type} (n : Nat) (x : α) (l : List α) : dropN (n + 1) (x :: l) = dropN n l := rfl
@[simp] theorem takeN_0 {α : Type} (l : List α) : takeN 0 l = some [] := rfl
@[simp] theorem takeN_s {α : Type} (n : Nat) (x : α) (l : List α) : takeN (n + 1) (x :: l) = bnd (takeN n l) fun t => some (x :: t) := rfl
@[simp] theorem isV_str (h : H) (s : List Nat) (i : T) : isV h (.str s) i = bnd (toIdx i) fun i => bnd (nthD s i) fun c => val h (some (.int .u8 (.ofNat c))) := rfl
@[simp] theorem exV_tuple (h : H) (vs : List T) (i : Nat) : exV h (.tuple vs) i = val h (nthD vs i) := rfl
end Go.TI

/- Contracts as rules: what a function returns for each argument of a family. -/
namespace Go.TI
set_option linter.unusedVariables false
structure Rule where
  f : Nat
  α : Type
  A : α → List T
  R : α → T
def Rule.Ok (P : Program) (cx : Ctx) (ru : Rule) : Prop := ∀ a, PureAt P cx ru.f (ru.A a) (ru.R a)
/-- The arguments settle the result. -/
def Rule.Inj (ru : Rule) : Prop := ∀ a b, ru.A a = ru.A b → ru.R a = ru.R b
open Classical in
noncomputable def Rule.sp (ru : Rule) (args : List T) : Option T := if h : ∃ a, ru.A a = args then some (ru.R h.choose) else none
noncomputable def spL : List Rule → Nat → List T → Option T
  | [], _, _ => none
  | ru :: rs, f, args => if f = ru.f then ru.sp args else spL rs f args
theorem spL_ok {P : Program} {cx : Ctx} {rs : List Rule} (h : ∀ ru ∈ rs, ru.Ok P cx) : SpOk P cx (spL rs) := by
  induction rs with
  | nil => intro f args r hh; simp [spL] at hh
  | cons ru rs ih =>
    intro f args r hh
    simp only [spL] at hh
    split at hh
    · rename_i hf
      subst hf
      unfold Rule.sp at hh
      split at hh
      · rename_i hx
        simp only [Option.some.injEq] at hh; subst hh
        have := h ru (by simp) hx.choose
        rwa [hx.choose_spec] at this
      · simp at hh
    · exact ih (fun r hr => h r (by simp [hr])) f args r hh
/-- A rule is in force. -/
def Has (sp : Nat → List T → Option T) (ru : Rule) : Prop := ∀ a h, cfS sp ru.f (ru.A a) h = some (ru.R a, h)
theorem has_head {ru : Rule} {rs : List Rule} (hi : ru.Inj) : Has (spL (ru :: rs)) ru := by
  intro a h
  have hx : ∃ b, ru.A b = ru.A a := ⟨a, rfl⟩
  have : spL (ru :: rs) ru.f (ru.A a) = some (ru.R a) := by
    simp only [spL, if_true]
    unfold Rule.sp
    rw [dif_pos hx, hi _ _ hx.choose_spec]
  unfold cfS; rw [this]; rfl
theorem has_tail {ru r : Rule} {rs : List Rule} (hn : ¬ ru.f = r.f) (h : Has (spL rs) ru) : Has (spL (r :: rs)) ru := by
  intro a h0
  rw [← h a h0]
  unfold cfS
  simp only [spL, if_neg hn]
theorem ruleOk {P : Program} {cx : Ctx} {ru : Rule} {g : Quick} (hq : QuickOk P cx ru.f g) {rs : List Rule} (hrs : ∀ r ∈ rs, r.Ok P cx) (hl : ∀ a, lowBs (ru.A a) = true)
    (hw : ∀ a, ∃ n, g (cfS (spL rs)) n (ru.A a) ⟨0, 0, []⟩ = some (ru.R a, ⟨0, 0, []⟩)) : ru.Ok P cx := by
  intro a
  obtain ⟨n, hn⟩ := hw a
  exact pureQ hq (spL_ok hrs) (lowBs_low _ (hl a)) n hn

@[simp] theorem lowBs_nil : lowBs [] = true := by unfold lowBs; rfl
@[simp] theorem lowBs_cons (x : T) (xs : List T) : lowBs (x :: xs) = (lowB x && lowBs xs) := by rw [lowBs]
@[simp] theorem lowB_int (k : IntKind) (n : Int) : lowB (.int k n) = true := by unfold lowB; rfl
@[simp] theorem lowB_bool (b : Bool) : lowB (.bool b) = true := by unfold lowB; rfl
@[simp] theorem lowB_str (s : List Nat) : lowB (.str s) = true := by unfold lowB; rfl
@[simp] theorem lowB_wild : lowB .ewild = true := by unfold lowB; rfl
@[simp] theorem lowB_tree (es : List T) (f : Bool) : lowB (.tree es f) = lowBs es := by rw [lowB]
@[simp] theorem lowB_agg (es : List T) : lowB (.agg es) = lowBs es := by rw [lowB]
theorem lowBs_map {α : Type} (f : α → T) (h : ∀ a, lowB (f a) = true) : ∀ l : List α, lowBs (l.map f) = true := by
  intro l
  induction l with
  | nil => simp
  | cons a l ih => simp [h a, ih]

/-! ### slices -/
/-- A slice that is known whole. -/
def SL (v : T) (es : List T) : Prop := (v = .ewild ∧ es = []) ∨ ∃ f, v = .tree es f
/-- The slice of an argument. -/
def sl (es : List T) : T := match es with | [] => .ewild | x :: r => .tree (x :: r) false
theorem SL_sl (es : List T) : SL (sl es) es := by cases es with | nil => exact .inl ⟨rfl, rfl⟩ | cons x r => exact .inr ⟨false, rfl⟩
theorem SL_tree (es : List T) (f : Bool) : SL (.tree es f) es := .inr ⟨f, rfl⟩
theorem SL.low {v : T} {es : List T} (h : SL v es) (hl : lowBs es = true) : lowB v = true := by
  rcases h with ⟨rfl, rfl⟩ | ⟨f, rfl⟩ <;> simp [hl]
theorem SL.uniq {v : T} {es es' : List T} (h : SL v es) (h' : SL v es') : es = es' := by
  rcases h with ⟨rfl, rfl⟩ | ⟨f, rfl⟩ <;> rcases h' with ⟨h1, rfl⟩ | ⟨f', h1⟩ <;> first | rfl | (simp only [T.tree.injEq] at h1; exact h1.1) | (simp at h1; done)
theorem SL.len {v : T} {es : List T} (hv : SL v es) (h : H) : lenS h v = some (.val (.int .i64 (es.length : Nat)) h) := by
  rcases hv with ⟨rfl, rfl⟩ | ⟨f, rfl⟩
  · rfl
  · simp
theorem SL.idx {v : T} {es : List T} (hv : SL v es) (h : H) (te : Ty) (i : Nat) (k : IntKind) : iaV h te v (.int k (i : Int)) = bnd (es[i]?) fun v => chk (Nat.beq v.cells.length te.size) (some (Did.val (.tptr v.cells) h)) := by
  rcases hv with ⟨rfl, rfl⟩ | ⟨f, rfl⟩
  · rfl
  · exact iaV_t h te es f i k
theorem SL.items {v : T} {es : List T} (hv : SL v es) (h : H) : h.items v = some es := by
  rcases hv with ⟨rfl, rfl⟩ | ⟨f, rfl⟩ <;> rfl
theorem SL.cells {v : T} {es : List T} (hv : SL v es) : v.cells = [v] := by
  rcases hv with ⟨rfl, rfl⟩ | ⟨f, rfl⟩ <;> rfl
theorem SL.good {v : T} {es : List T} (hv : SL v es) : v.good = true := by
  rcases hv with ⟨rfl, rfl⟩ | ⟨f, rfl⟩ <;> rfl
/-! ### what a function hands back -/
@[simp] theorem leave_int (n : Int) (k : IntKind) : leave false 0 0 (oneOrTuple [.int k n]) ⟨0, 0, []⟩ = some (.int k n, ⟨0, 0, []⟩) := rfl
@[simp] theorem leave_bool (b : Bool) : leave false 0 0 (oneOrTuple [.bool b]) ⟨0, 0, []⟩ = some (.bool b, ⟨0, 0, []⟩) := rfl
end Go.TI

/- The heap in walks: what stands in a box. -/
namespace Go.TI
set_option linter.unusedVariables false
set_option linter.unusedSimpArgs false
def Hp (h : H) : Prop := h.boxes.length = h.size
theorem Hp_cons {h : H} (hw : Hp h) (x : Box) : Hp (h.cons x) := by unfold Hp at *; simp [H.cons, hw]
@[simp] theorem size_cons (h : H) (x : Box) : (h.cons x).size = h.size + 1 := rfl
theorem get_cons {h : H} (hw : Hp h) (x : Box) (b : Nat) : (h.cons x).get b = if b = h.size then some x else h.get b := by
  by_cases hb : b = h.size
  · subst hb; rw [if_pos rfl]; exact H.get_cons_same hw x
  · rw [if_neg hb]
    rcases Nat.lt_or_ge b h.size with hlt | hge
    · exact H.get_cons_other hlt x
    · rw [H.get_eq, H.get_eq, if_neg (by simp [H.cons]; omega), if_neg (by omega)]
/-- The heap with a box changed. -/
noncomputable def putB (h : H) (b : Nat) (x : Box) : H := (h.put b x).getD h
theorem put_putB {h : H} (hw : Hp h) {b : Nat} (hb : b < h.size) (x : Box) : h.put b x = some (putB h b x) := by
  have : ∃ h', h.put b x = some h' := by
    obtain ⟨size, low, boxes⟩ := h
    unfold Hp at hw
    simp only at hw hb
    show ∃ h', (chk (Nat.blt b size) (bnd (setNth boxes (Nat.sub (Nat.sub size 1) b) x) fun bs => @Bool.rec (fun _ => Option H) (some ⟨size, low, bs⟩) (some ⟨size, b, bs⟩) (Nat.blt b low))) = some h'
    rw [show Nat.blt b size = true by rw [Nat.blt_eq]; exact hb, chk_true, setNth_eq, if_pos (by show size - 1 - b < _; omega), bnd_some]
    cases Nat.blt b low <;> exact ⟨_, rfl⟩
  obtain ⟨h', hh⟩ := this
  unfold putB; rw [hh]; rfl
theorem putB_facts {h : H} (hw : Hp h) {b : Nat} (hb : b < h.size) (x : Box) : Hp (putB h b x) ∧ (putB h b x).size = h.size ∧ ∀ c, (putB h b x).get c = if c = b then some x else h.get c := by
  have hp := put_putB hw hb x
  generalize putB h b x = h' at *
  obtain ⟨size, low, boxes⟩ := h
  unfold Hp at *
  simp only at hw hb
  have hp : (chk (Nat.blt b size) (bnd (setNth boxes (Nat.sub (Nat.sub size 1) b) x) fun bs => @Bool.rec (fun _ => Option H) (some ⟨size, low, bs⟩) (some ⟨size, b, bs⟩) (Nat.blt b low))) = some h' := hp
  rw [show Nat.blt b size = true by rw [Nat.blt_eq]; exact hb, chk_true, setNth_eq, if_pos (by show size - 1 - b < _; omega), bnd_some] at hp
  have key : h'.size = size ∧ h'.boxes = boxes.set (size - 1 - b) x := by
    cases hl : Nat.blt b low <;> rw [hl] at hp <;> simp only [Option.some.injEq] at hp <;> subst hp <;> exact ⟨rfl, rfl⟩
  obtain ⟨k1, k2⟩ := key
  refine ⟨by rw [k1, k2]; simp [hw], k1, fun c => ?_⟩
  rw [H.get_eq, H.get_eq, k1, k2]
  by_cases hc : c = b
  · subst hc
    rw [if_pos hb, if_pos rfl]
    simp [List.getElem?_set, hw]; omega
  · rw [if_neg hc]
    simp only
    by_cases hlt : c < size
    · rw [if_pos hlt, if_pos hlt, List.getElem?_set_ne (by omega)]
    · rw [if_neg hlt, if_neg hlt]
theorem Hp_put {h : H} (hw : Hp h) {b : Nat} (hb : b < h.size) (x : Box) : Hp (putB h b x) := (putB_facts hw hb x).1
theorem size_put {h : H} (hw : Hp h) {b : Nat} (hb : b < h.size) (x : Box) : (putB h b x).size = h.size := (putB_facts hw hb x).2.1
theorem get_put {h : H} (hw : Hp h) {b : Nat} (hb : b < h.size) (x : Box) (c : Nat) : (putB h b x).get c = if c = b then some x else h.get c := (putB_facts hw hb x).2.2 c

theorem load_ptr {h : H} {b sz ep ver : Nat} {ex : Bool} {es : List T} {i : Nat} {e : T} (hg : h.get b = some ⟨sz, ep, ver, ex, false, es⟩) (he : es[i]? = some e) (t : Ty) (j : Nat) : h.load t (.ptr b ep i j) = bnd (dropN j e.cells) fun cs => readAs t cs := by
  show (bnd (bnd (h.get b) fun x => Box.casesOn x fun _ ep' _ _ it elems => chk (Nat.beq ep' ep) (Bool.casesOn it (nthD elems i) none)) fun e => bnd (dropN j e.cells) fun cs => readAs t cs) = _
  rw [hg]
  simp [he]
/-- A box of one element. -/
theorem load_one {h : H} {b sz ver : Nat} {ex : Bool} {e : T} (hg : h.get b = some ⟨sz, 0, ver, ex, false, [e]⟩) (t : Ty) (j : Nat) : h.load t (.ptr b 0 0 j) = bnd (dropN j e.cells) fun cs => readAs t cs := load_ptr hg rfl t j
@[simp] theorem faV_ptr (off : Nat) (h : H) (b ep i j : Nat) : faV off h (.ptr b ep i j) = some (.val (.ptr b ep i (j + off)) h) := by
  show (bnd (normNat (Nat.add j off)) fun j' => some (Did.val (.ptr b ep i j') h)) = _
  rw [normNat_eq]; rfl
theorem boxV_eq (h : H) {v : T} (hv : v.good = true) : boxV h v = some (.val (.ptr h.size 0 0 0) (h.cons ⟨v.cells.length, 0, 0, true, false, [v]⟩)) := by
  unfold boxV
  rw [hv, chk_true, H.new_cons, lenN_len]; rfl
@[simp] theorem boxV_agg (h : H) (cs : List T) : boxV h (.agg cs) = some (.val (.ptr h.size 0 0 0) (h.cons ⟨cs.length, 0, 0, true, false, [.agg cs]⟩)) := boxV_eq h rfl
@[simp] theorem new_eq (h : H) (f : Nat → T) (x : Box) : valNew (h.new f x) = some (.val (f h.size) (h.cons x)) := by rw [H.new_cons]; rfl
/-- A whole variable is stored. -/
theorem stV_one {h : H} (hw : Hp h) {b sz ver : Nat} {ex : Bool} {old cs : List T} (hg : h.get b = some ⟨sz, 0, ver, ex, false, [.agg old]⟩) {t : Ty} (hl : cs.length = t.size) (ho : old.length = t.size) :
    stV h t (.ptr b 0 0 0) (.agg cs) = some (.val .undef (putB h b ⟨sz, 0, ver + 1, ex, false, [.agg cs]⟩)) := by
  have hlt := H.get_lt hg
  show (chk true (bnd (chk (Nat.beq (lenN cs) t.size) (bnd (h.get b) fun x => Box.casesOn x fun sz ep' ver exact it elems =>
      chk (Nat.beq ep' 0) (Bool.casesOn it (bnd (nthD elems 0) fun e => bnd (setIn e 0 cs) fun e' => bnd (setNth elems 0 e') fun es =>
        bnd (normNat (Nat.succ ver)) fun ver' => h.put b ⟨sz, ep', ver', exact, false, es⟩) none))) fun h' => some (Did.val .undef h'))) = _
  rw [hg, lenN_len, hl]
  have h1 : setIn (.agg old) 0 cs = some (.agg cs) := by
    show (bnd (over old cs) fun r => some (T.agg r)) = _
    rw [over_eq, if_pos (by omega), bnd_some]
    simp [show old.length ≤ cs.length by omega]
  simp [h1, setNth_eq, put_putB hw hlt]
/-- The heap of one box. -/
@[simp] theorem load_c1 (sz ver : Nat) (ex : Bool) (e : T) (t : Ty) (j : Nat) : (H.cons ⟨0, 0, []⟩ ⟨sz, 0, ver, ex, false, [e]⟩).load t (.ptr 0 0 0 j) = bnd (dropN j e.cells) fun cs => readAs t cs := load_one (sz := sz) (ver := ver) (ex := ex) (by rw [get_cons (h := ⟨0, 0, []⟩) rfl, if_pos rfl]) t j
theorem Hp_c1 (x : Box) : Hp (H.cons ⟨0, 0, []⟩ x) := rfl
@[simp] theorem leave_b1 (x : Box) (b : Bool) : leave false 0 0 (oneOrTuple [.bool b]) (H.cons ⟨0, 0, []⟩ x) = some (.bool b, ⟨0, 0, []⟩) := rfl
@[simp] theorem leave_i1 (x : Box) (k : IntKind) (n : Int) : leave false 0 0 (oneOrTuple [.int k n]) (H.cons ⟨0, 0, []⟩ x) = some (.int k n, ⟨0, 0, []⟩) := rfl
/-! ### the end of a call -/
theorem leaveCut_0 {h : H} (hw : Hp h) (r r' : T) : leaveCut 0 0 r r' h = some (r', ⟨0, 0, []⟩) := by
  obtain ⟨size, low, boxes⟩ := h
  unfold Hp at hw
  simp only at hw
  unfold leaveCut
  simp only
  rw [show Nat.sub size 0 = size from rfl, dropN_eq, if_pos (by omega), bnd_some, show Nat.ble 0 low = true by simp]
  simp [show boxes.drop size = [] by simp [hw]]
theorem leave_of {h : H} (hw : Hp h) {r r' : T} (hf : freezeTop h 0 r = some r') : leave false 0 0 r h = some (r', ⟨0, 0, []⟩) := by
  show @Option.rec T (fun _ => Option (T × H)) (leaveKeep 0 r h) (fun r' => leaveCut 0 0 r r' h) (freezeTop h 0 r) = _
  rw [hf]
  exact leaveCut_0 hw r r'
theorem leave_b {h : H} (hw : Hp h) (b : Bool) : leave false 0 0 (oneOrTuple [.bool b]) h = some (.bool b, ⟨0, 0, []⟩) := leave_of hw rfl
theorem leave_i {h : H} (hw : Hp h) (k : IntKind) (n : Int) : leave false 0 0 (oneOrTuple [.int k n]) h = some (.int k n, ⟨0, 0, []⟩) := leave_of hw rfl
/-- Values that freezing leaves as they are. -/
inductive Frz : T → Prop where
  | bool (b : Bool) : Frz (.bool b)
  | int (k : IntKind) (n : Int) : Frz (.int k n)
  | str (s : List Nat) : Frz (.str s)
  | tree (es : List T) (f : Bool) : Frz (.tree es f)
  | ewild : Frz .ewild
theorem Frz.freeze {v : T} (hv : Frz v) (h : H) (n d : Nat) : freeze h n (d + 1) v = some v := by cases hv <;> rfl
theorem mapOpt_self {f : T → Option T} {es : List T} (hf : ∀ x ∈ es, f x = some x) : mapOpt f es = some es := by
  induction es with
  | nil => rfl
  | cons x r ih =>
    rw [mapOpt_cons, hf x (by simp), ih fun y hy => hf y (by simp [hy])]; rfl
/-- An element that is frozen as it is: plain, or a row of plain cells. -/
def FrzE (v : T) : Prop := Frz v ∨ ∃ cs, v = .agg cs ∧ ∀ c ∈ cs, Frz c
theorem FrzE.freeze {v : T} (hv : FrzE v) (h : H) (n d : Nat) : freeze h n (d + 2) v = some v := by
  rcases hv with hv | ⟨cs, rfl, hc⟩
  · exact hv.freeze h n (d + 1)
  · show (bnd (mapOpt (Go.TI.freeze h n (d + 1)) cs) fun r => some (T.agg r)) = _
    rw [mapOpt_self fun x hx => (hc x hx).freeze h n d]; rfl
theorem freezeCell_arr {h : H} {b sz ep ver : Nat} {ex : Bool} {es : List T} {n : Nat} {f : Bool} (hg : h.get b = some ⟨sz, ep, ver, ex, false, es⟩) (hn : n = es.length) (hne : es ≠ []) (hf : ∀ x ∈ es, FrzE x) :
    freezeCell h 0 (.arr b ep 0 n f) = some (.tree es f) := by
  have h0 : freezeCell h 0 (.arr b ep 0 n f) = freeze h 0 12 (.arr b ep 0 n f) := by
    unfold freezeCell
    simp only
    rw [show Nat.ble 0 b = true by simp]
  rw [h0]
  show (chk (Nat.ble 0 b) (bnd (h.get b) fun x => Box.casesOn x fun _ ep' _ exact it elems =>
        chk (Nat.beq ep' ep) (@Bool.rec (fun _ => Option T) (bnd (bnd (dropN 0 elems) fun r => takeN n r) fun es => bnd (mapOpt (freeze h 0 11) es) fun es' =>
          @List.rec T (fun _ => Option T) (@List.rec T (fun _ => Option T) (@Bool.rec (fun _ => Option T) (some T.ewild) (some (T.tree [] false)) exact) (fun _ _ _ => some T.ewild) elems) (fun _ _ _ => some (T.tree es' f)) es') none it))) = _
  rw [hg, show Nat.ble 0 b = true by simp]
  subst hn
  simp only [chk_true, bnd_some, Nat.beq_refl, dropN_0, takeN_eq, Nat.le_refl, if_true, List.take_length]
  rw [mapOpt_self fun x hx => (hf x hx).freeze h 0 9]
  cases es with
  | nil => exact absurd rfl hne
  | cons x r => rfl
theorem leave_arr {h : H} (hw : Hp h) {b sz ep ver : Nat} {ex : Bool} {es : List T} {n : Nat} {f : Bool} (hg : h.get b = some ⟨sz, ep, ver, ex, false, es⟩) (hn : n = es.length) (hne : es ≠ []) (hf : ∀ x ∈ es, FrzE x) :
    leave false 0 0 (oneOrTuple [.arr b ep 0 n f]) h = some (.tree es f, ⟨0, 0, []⟩) := leave_of hw (freezeCell_arr hg hn hne hf)
theorem leave_t {h : H} (hw : Hp h) (es : List T) (f : Bool) : leave false 0 0 (oneOrTuple [.tree es f]) h = some (.tree es f, ⟨0, 0, []⟩) := leave_of hw rfl
/-! ### short slices -/
theorem bslV_1 (h : H) {te : Ty} (hs : te.size = 1) {a : T} (ha : a.good = true) (ca : a.cells.length = 1) : bslV te 1 h [(0, a)] = some (.val (.arr h.size 0 0 1 false) (h.cons ⟨1, 0, 0, true, false, [a]⟩)) := by
  simp [bslV, partsV, mapOpt_cons, ha, hs, fillElems, ca, setNth_eq, newBox]
theorem bslV_2 (h : H) {te : Ty} (hs : te.size = 1) {a b : T} (ha : a.good = true) (ca : a.cells.length = 1) (hb : b.good = true) (cb : b.cells.length = 1) : bslV te 2 h [(0, a), (1, b)] = some (.val (.arr h.size 0 0 2 false) (h.cons ⟨1, 0, 0, true, false, [a, b]⟩)) := by
  simp [bslV, partsV, mapOpt_cons, ha, hb, hs, fillElems, ca, cb, setNth_eq, newBox, List.replicate]
theorem bslV_3 (h : H) {te : Ty} (hs : te.size = 1) {a b c : T} (ha : a.good = true) (ca : a.cells.length = 1) (hb : b.good = true) (cb : b.cells.length = 1) (hc : c.good = true) (cc : c.cells.length = 1) : bslV te 3 h [(0, a), (1, b), (2, c)] = some (.val (.arr h.size 0 0 3 false) (h.cons ⟨1, 0, 0, true, false, [a, b, c]⟩)) := by
  simp [bslV, partsV, mapOpt_cons, ha, hb, hc, hs, fillElems, ca, cb, cc, setNth_eq, newBox, List.replicate]
end Go.TI
