/- The interpreter, quick: draws that need no look, functions, calls. -/
import Derived.Test.YtemkchpdcgkeiaaGreatDoorTiFast
namespace Go.TI
set_option linter.unusedSimpArgs false
set_option linter.unusedVariables false
set_option linter.unusedVariables false
section
variable {P : Program} {cx : Ctx} {cf : CallF} {mask fuel : Nat} {K : List Nat}

def lookK : Op → Bool
  | .load .. | .indexAddr .. | .slice .. | .convert .. | .lookup .. | .alloc .. | .box .. | .buildSlice .. | .makeSlice .. | .range .. | .makeMap .. => true
  | _ => false

/-- Whatever looks at a box and whatever changes one stand in an order. -/
def statB (ops : Array Oper) : Bool :=
  let bs := befs ops.toList []
  let os := ops.toList.zipIdx
  os.all fun y => os.all fun x => !Nat.blt x.2 y.2 || !((lookK x.1.op && isEff y.1.op) || (isEff x.1.op && (lookK y.1.op || isEff y.1.op))) || (bs.getD y.2 0).testBit x.2

theorem statB_pairs {ops : Array Oper} (hb : statB ops = true) {i j : Nat} {oi oj : Oper} (hi : ops[i]? = some oi) (hj : ops[j]? = some oj) (hij : i < j)
    (hk : (lookK oi.op = true ∧ isEff oj.op = true) ∨ (isEff oi.op = true ∧ (lookK oj.op = true ∨ isEff oj.op = true))) : ordered ops i j = true := by
  unfold statB at hb
  have h1 := List.all_eq_true.1 hb (oj, j) (mem_zipIdx hj)
  have h2 := List.all_eq_true.1 h1 (oi, i) (mem_zipIdx hi)
  have h3 : Nat.blt i j = true := by rw [Nat.blt_eq]; exact hij
  simp only [h3, Bool.not_true, Bool.false_or, Bool.or_eq_true, Bool.not_eq_true'] at h2
  rcases h2 with h2 | h2
  · exfalso
    rcases hk with ⟨k1, k2⟩ | ⟨k1, k2 | k2⟩ <;> simp [k1, k2] at h2
  · exact h2

theorem lookK_of {e : Env} {h : H} {op : Op} {b : Nat} (hh : looksBox cx mask e h op = some b) : lookK op = true := by
  cases op <;> first | rfl | (simp [looksBox] at hh)

theorem runDraw_stat {ops : Array Oper} (hs : statB ops = true) : ∀ (l : List Oper) (i : Nat) (s : Seen) (e : Env) (h : H), (∀ t, l[t]? = ops[i + t]?) →
    (∀ p ∈ s.loads, p.1 < i ∧ ∃ o, ops[p.1]? = some o ∧ lookK o.op = true) → (∀ p ∈ s.effs, p.1 < i ∧ ∃ o, ops[p.1]? = some o ∧ isEff o.op = true) →
    runDraw cx cf mask ops l i s e h = runOps cx cf mask ops l e h := by
  intro l
  induction l with
  | nil => intro i s e h _ _ _; rfl
  | cons o l ih =>
    intro i s e h hl hlo hef
    have hi : ops[i]? = some o := by have := hl 0; simpa using this.symm
    have hl' : ∀ t, l[t]? = ops[i + 1 + t]? := fun t => by
      have := hl (t + 1)
      simp only [List.getElem?_cons_succ] at this
      rw [this]; congr 1; omega
    show (bnd (stepOp cx cf mask ops e h o) fun p => two p fun e1 h1 =>
      bnd (wantT ops mask e o.guard) fun want => @Bool.rec (fun _ => Option (Env × H)) (runDraw cx cf mask ops l (i + 1) s e1 h1)
        (@Bool.rec (fun _ => Option (Env × H))
          (@Option.rec Nat (fun _ => Option (Env × H)) (runDraw cx cf mask ops l (i + 1) s e1 h1)
            (fun b => chk (loadOk ops i b s.effs) (runDraw cx cf mask ops l (i + 1) ⟨(i, b) :: s.loads, s.effs⟩ e1 h1)) (looksBox cx mask e h o.op))
          (chk (effOk ops i h h1 s.loads) (chk (storeOk cx mask ops i e s.effs o.op) (runDraw cx cf mask ops l (i + 1) ⟨s.loads, (i, h, h1) :: s.effs⟩ e1 h1))) (isEff o.op)) want)
      = bnd (stepOp cx cf mask ops e h o) fun p => two p fun e' h' => runOps cx cf mask ops l e' h'
    cases hst : stepOp cx cf mask ops e h o with
    | none => rfl
    | some p =>
      obtain ⟨e1, h1⟩ := p
      simp only [bnd_some, two_mk]
      have hlo' : ∀ p ∈ s.loads, p.1 < i + 1 ∧ ∃ o, ops[p.1]? = some o ∧ lookK o.op = true := fun p hp => ⟨by have := (hlo p hp).1; omega, (hlo p hp).2⟩
      have hef' : ∀ p ∈ s.effs, p.1 < i + 1 ∧ ∃ o, ops[p.1]? = some o ∧ isEff o.op = true := fun p hp => ⟨by have := (hef p hp).1; omega, (hef p hp).2⟩
      have hwant : ∃ w, wantT ops mask e o.guard = some w := by
        rcases stepOp_inv hst with ⟨hw, _⟩ | ⟨hw, _⟩ <;> exact ⟨_, hw⟩
      obtain ⟨w, hw⟩ := hwant
      rw [hw]
      simp only [bnd_some]
      cases w with
      | false => exact ih (i + 1) s e1 h1 hl' hlo' hef'
      | true =>
        simp only
        cases he : isEff o.op with
        | true =>
          have : effOk ops i h h1 s.loads = true := by
            unfold effOk
            rw [allB_eq, List.all_eq_true]
            intro p hp
            obtain ⟨k1, ok, k2, k3⟩ := hlo p hp
            have := statB_pairs hs k2 hi k1 (.inl ⟨k3, he⟩)
            show @Bool.rec (fun _ => Bool) (ordered ops p.1 i) true (sameVer h h1 p.2) = true
            rw [this]
            cases sameVer h h1 p.2 <;> rfl
          have h2 : ∀ b, loadOk ops i b s.effs = true := fun b => by
            unfold loadOk
            rw [allB_eq, List.all_eq_true]
            intro p hp
            obtain ⟨k1, ok, k2, k3⟩ := hef p hp
            have := statB_pairs hs k2 hi k1 (.inr ⟨k3, .inr he⟩)
            show @Bool.rec (fun _ => Bool) (ordered ops p.1 i) true (sameVer p.2.1 p.2.2 b) = true
            rw [this]
            cases sameVer p.2.1 p.2.2 b <;> rfl
          have h3 : storeOk cx mask ops i e s.effs o.op = true := by
            unfold storeOk
            split
            · rename_i t x v _
              cases bnd (opnd cx mask e x) boxOf with
              | none => rfl
              | some b => exact h2 b
            · rfl
          simp only [this, h3, chk_true]
          refine ih (i + 1) _ e1 h1 hl' hlo' fun p hp => ?_
          rcases List.mem_cons.1 hp with rfl | hp
          · exact ⟨by simp, o, hi, he⟩
          · exact hef' p hp
        | false =>
          simp only
          cases hb : looksBox cx mask e h o.op with
          | none => exact ih (i + 1) s e1 h1 hl' hlo' hef'
          | some b =>
            have hlk := lookK_of hb
            have : loadOk ops i b s.effs = true := by
              unfold loadOk
              rw [allB_eq, List.all_eq_true]
              intro p hp
              obtain ⟨k1, ok, k2, k3⟩ := hef p hp
              have := statB_pairs hs k2 hi k1 (.inr ⟨k3, .inl hlk⟩)
              show @Bool.rec (fun _ => Bool) (ordered ops p.1 i) true (sameVer p.2.1 p.2.2 b) = true
              rw [this]
              cases sameVer p.2.1 p.2.2 b <;> rfl
            simp only [this, chk_true]
            refine ih (i + 1) _ e1 h1 hl' (fun p hp => ?_) hef'
            rcases List.mem_cons.1 hp with rfl | hp
            · exact ⟨by simp, o, hi, hlk⟩
            · exact hlo' p hp

/-- A region that draws, where the order is of no account. -/
theorem EqR.draw {id : Nat} {ops : Array Oper} {R : Env → H → Out} (hs : statB ops = true) (hR : EqR K (codeT cx cf fuel mask (.region id ops false)) R) : EqR K (codeT cx cf fuel mask (.region id ops true)) R := by
  intro e h hk
  rw [← hR e h hk]
  obtain ⟨vars, tmps⟩ := e
  show (bnd (runDraw cx cf mask ops ops.toList 0 ⟨[], []⟩ ⟨vars, .nil⟩ h) fun r => two r fun e' h' => some (Ex.normal, (⟨e'.vars, .nil⟩ : Env), h'))
    = bnd (runOps cx cf mask ops ops.toList ⟨vars, .nil⟩ h) fun r => two r fun e' h' => some (Ex.normal, (⟨e'.vars, .nil⟩ : Env), h')
  rw [runDraw_stat hs ops.toList 0 ⟨[], []⟩ ⟨vars, .nil⟩ h (fun t => by simp) (fun p hp => by simp at hp) (fun p hp => by simp at hp)]

/-! ### functions and calls -/

abbrev Quick := CallF → Nat → List T → H → Option (T × H)

noncomputable def bodyF (cx : Ctx) (init : List T → Option Vars) (code : CallF → Nat → Env → H → Out) (res : List ResultVar) (mask : Nat) (keep : Bool) : Quick := fun cf fuel args h =>
  H.casesOn h fun size low boxes => bnd (init args) fun vars =>
    bnd (code cf fuel ⟨vars, .nil⟩ ⟨size, size, boxes⟩) fun r => three r fun x e' h' => Ex.casesOn x
      (bnd (resultsT cx mask e' h' res) fun vs => leave keep size low (oneOrTuple vs) h')
      (fun _ => none)
      (bnd (resultsT cx mask e' h' res) fun vs => leave keep size low (oneOrTuple vs) h')

/-- A quick function stands for the program's. -/
def QuickOk (P : Program) (cx : Ctx) (f : FuncId) (g : Quick) : Prop :=
  ∀ cf, CallOk P cx cf → ∀ n args h r h', g cf n args h = some (r, h') → ∀ base w μ (cargs : Array Value), St cx base w.heap μ h → RelL w.heap μ args cargs.toList → Ran P (AfterG cx base w μ h r h') ((callFunc f cargs).run P w)

theorem quick_deep (hm : P.follows .mixedOrders = true) (tys : TysOk P cx) {f : FuncId} {F : Fun} (hF : P.funcs[f]? = some F.fn) (hok : okFun F = true) : QuickOk P cx f (fun cf n args h => bodyT cx cf n F.fn F.mask F.keep args h) := by
  intro cf ck n args h r h' hh base w μ cargs s hL
  exact body_sound hm tys ck hF hok hh s hL

theorem quick_prim {f : FuncId} {p : Prim} (hp : PrimOk P cx f p) : QuickOk P cx f (fun _ _ args h => primT p args h) := by
  intro cf ck n args h r h' hh base w μ cargs s hL
  exact hp args h r h' hh base w μ cargs s hL

theorem quick_fast (hm : P.follows .mixedOrders = true) (tys : TysOk P cx) {f : FuncId} {F : Fun} {c : Code} {init : List T → Option Vars} {code : CallF → Nat → Env → H → Out} {res : List ResultVar} (hF : P.funcs[f]? = some F.fn) (hok : okFun F = true)
    (hb : F.fn.body = some c) (hr : F.fn.results.toList = res) (hinit : ∀ args v, init args = some v → initVars F.mask F.fn.ntmps 0 args = some v ∧ keys v = K)
    (hcode : ∀ cf fuel, EqR K (codeT cx cf fuel F.mask c) (code cf fuel)) : QuickOk P cx f (bodyF cx init code res F.mask F.keep) := by
  intro cf ck n args h r h' hh base w μ cargs s hL
  refine body_sound (F := F) (fuel := n) hm tys ck hF hok ?_ s hL
  obtain ⟨size, low, boxes⟩ := h
  have hh : (bnd (init args) fun vars => bnd (code cf n ⟨vars, .nil⟩ ⟨size, size, boxes⟩) fun r => three r fun x e' h' => @Ex.rec (fun _ => Option (T × H))
      (bnd (resultsT cx F.mask e' h' res) fun vs => leave F.keep size low (oneOrTuple vs) h')
      (fun _ => none)
      (bnd (resultsT cx F.mask e' h' res) fun vs => leave F.keep size low (oneOrTuple vs) h') x) = some (r, h') := hh
  obtain ⟨vars, hv, hh⟩ := bnd_eq_some.1 hh
  obtain ⟨h1, h2⟩ := hinit args vars hv
  rw [← hcode cf n ⟨vars, .nil⟩ ⟨size, size, boxes⟩ h2, ← hr] at hh
  show (Option.casesOn F.fn.body none fun body => bnd (initVars F.mask F.fn.ntmps 0 args) fun vars =>
    bnd (codeT cx cf n F.mask body ⟨vars, .nil⟩ ⟨size, size, boxes⟩) fun r => three r fun x e' h' => Ex.casesOn x
      (bnd (resultsT cx F.mask e' h' F.fn.results.toList) fun vs => leave F.keep size low (oneOrTuple vs) h')
      (fun _ => none)
      (bnd (resultsT cx F.mask e' h' F.fn.results.toList) fun vs => leave F.keep size low (oneOrTuple vs) h')) = some (r, h')
  rw [hb, h1]
  exact hh

noncomputable def callF (ft : FuncId → Option Quick) (n : Nat) : CallF :=
  @Nat.rec (fun _ => CallF) (fun _ _ _ => none) (fun n ih f args h => bnd (ft f) fun g => g ih n args h) n

theorem callF_sound {ft : FuncId → Option Quick} (hq : ∀ f g, ft f = some g → QuickOk P cx f g) : ∀ n, CallOk P cx (callF ft n) := by
  intro n
  induction n with
  | zero => intro f args h r h' hh; simp [callF] at hh
  | succ n ih =>
    intro f args h r h' hh base w μ cargs s hL
    have hh : (bnd (ft f) fun g => g (callF ft n) n args h) = some (r, h') := hh
    obtain ⟨g, hg, hh⟩ := bnd_eq_some.1 hh
    exact hq f g hg (callF ft n) ih n args h r h' hh base w μ cargs s hL
end

/-! ### what regions' terms are made of -/

def wantV (x : T) (w : Bool) : Option Bool := match x with
  | .bool b => some (Bool.casesOn b (Bool.casesOn w true false) w)
  | _ => some false
def nilV (c : Bool) (a b : T) : Bool := match a with
  | .nili => (match b with | .nili => c | _ => true)
  | _ => true
noncomputable def fieldV (off : Nat) (tf : Ty) (h : H) (x : T) : Option Did := match x with
  | .agg cs => bnd (dropN off cs) fun r => val h (readAs tf r)
  | _ => none
noncomputable def faV (off : Nat) (h : H) (x : T) : Option Did := match x with
  | .ptr b ep i j => bnd (normNat (Nat.add j off)) fun j' => some (.val (.ptr b ep i j') h)
  | .tptr cs => bnd (dropN off cs) fun cs' => some (.val (.tptr cs') h)
  | _ => none
noncomputable def iaV (h : H) (te : Ty) (x i : T) : Option Did := bnd (toIdx i) fun i => idxSlice h te x i
noncomputable def aaV (h : H) (n : Nat) (te : Ty) (x i : T) : Option Did := bnd (toIdx i) fun i => idxArray h n te x i
noncomputable def isV (h : H) (x i : T) : Option Did := bnd (toIdx i) fun i => match x with | .str s => bnd (nthD s i) fun c => val h (some (.int .u8 (.ofNat c))) | _ => none
noncomputable def ixV (h : H) (n : Nat) (te : Ty) (x i : T) : Option Did := bnd (toIdx i) fun i => match x with
  | .agg cs => chk (Nat.blt i n) (bnd (dropN (Nat.mul i te.size) cs) fun r => val h (readAs te r))
  | _ => none
noncomputable def stV (h : H) (ty : Ty) (a v : T) : Option Did := chk v.good (bnd (h.store ty a v) fun h' => some (.val .undef h'))
def pickV (h : H) (c a b : T) : Option Did := match c with
  | .bool t => Bool.casesOn t (val h (some b)) (val h (some a))
  | _ => none
def ncV (h : H) (v : T) : Option Did := match v with
  | .ptr .. | .tptr _ | .func .. => some (.val v h)
  | _ => none
noncomputable def boxV (h : H) (v : T) : Option Did := chk v.good (valNew (h.new (fun b => .ptr b 0 0 0) (newBox (lenN v.cells) true [v])))
noncomputable def partsV (l : List (Nat × T)) : Option (List (Nat × T)) := mapOpt (fun p => two p fun i x => chk x.good (some (i, x))) l
noncomputable def buildV (cx : Ctx) (fs : List (Nat × TypeId)) (zero : List T) (h : H) (l : List (Nat × T)) : Option Did :=
  bnd (partsV l) fun ps => bnd (fillCells (fun i => bnd (nthD fs i) fun f => bnd (cx.ty f.2) fun tf => some (f.1, tf.size)) ps zero) fun cs => val h (some (.agg cs))
noncomputable def bslV (te : Ty) (len : Nat) (h : H) (l : List (Nat × T)) : Option Did :=
  bnd (partsV l) fun ps => chk (Nat.ble 1 te.size) <| chk (Nat.ble (Nat.mul len te.size) 65536) (bnd (fillElems te.size ps (replicateN te.zeroT len)) fun es => valNew (h.new (fun b => .arr b 0 0 len false) (newBox te.size true es)))
noncomputable def exV (h : H) (v : T) (i : Nat) : Option Did := match v with | .tuple vs => val h (nthD vs i) | _ => none
noncomputable def cloV (args : List T) (v : T) : Option Did := match v with
  | .func f cap => bnd (appN args cap) fun l => some (.call f l)
  | _ => none
noncomputable def lenS (h : H) (x : T) : Option Did := match x with
  | .tree es _ => val h (bnd (normNat (lenN es)) fun n => some (.int .i64 (.ofNat n)))
  | .ewild => val h (some (.int .i64 0))
  | .arr _ _ _ l _ => val h (some (.int .i64 (.ofNat l)))
  | _ => none
noncomputable def lenT (h : H) (x : T) : Option Did := match x with
  | .str s => val h (bnd (normNat (lenN s)) fun n => some (.int .i64 (.ofNat n)))
  | _ => none
end Go.TI
