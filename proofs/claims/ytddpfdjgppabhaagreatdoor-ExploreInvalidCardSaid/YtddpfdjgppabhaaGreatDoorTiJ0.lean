/- The interpreter of trees, part 0 of 8: TiDefs. -/
import GoSem.Step
set_option linter.unusedSimpArgs false
set_option linter.unusedVariables false
/- The tree interpreter: abstract values, heap, and the interpreter of the loaded code. Definitions alone. They are written for the kernel's evaluation: recursors and case splits by hand where it matters. -/
namespace Go.TI

/-- Abstract values. 'tree': an immutable slice, known whole ('full': its capacity is its length; an empty tree has capacity 0). 'ewild': an empty slice of any capacity. 'arr': a slice into a box; 'ptr': a pointer into a box; 'tptr': a pointer into immutable memory. -/
inductive T where
  | undef
  | bool (b : Bool)
  | int (k : IntKind) (n : Int)
  | str (s : List Nat)
  | nilp
  | ptr (b ep i j : Nat)
  | tptr (cells : List T)
  | tree (elems : List T) (full : Bool)
  | ewild
  | arr (b ep o l : Nat) (full : Bool)
  | func (f : FuncId) (captured : List T)
  | nilf
  | nili
  | iface (t : TypeId) (v : T)
  | iter (b : Nat)
  | map (b : Nat)
  | nilm
  | agg (cells : List T)
  | tuple (vs : List T)
  deriving Inhabited

def T.cells : T → List T
  | .agg cs => cs
  | v => [v]

/-- Neither unset nor a tuple. -/
def T.good : T → Bool
  | .undef | .tuple _ => false
  | _ => true

/-- A box: 'sz' cells an element; 'ep' counts the appends, 'ver' the changes; 'exact': there is no room behind the elements; 'it': a string's iterator (elements: the string, the position), or a map (elements: pairs of a key and a value). -/
structure Box where
  sz : Nat
  ep : Nat
  ver : Nat
  exact : Bool
  it : Bool
  elems : List T
  deriving Inhabited

/-- The heap, the newest box first. 'low': every box below it is as it was when the running call began. -/
structure H where
  size : Nat
  low : Nat
  boxes : List Box
  deriving Inhabited

inductive U where
  | int (k : IntKind) | bool | str | slice (e : TypeId) | array (n : Nat) (e : TypeId) | map (k e : TypeId) | struct (fs : List (Nat × TypeId)) | ptr (e : TypeId) | func | iface | other
  deriving Inhabited

/-- What the operations ask of a type: its shape, its size in cells and bytes, its zero value's cells; 'cmp': its values may be held against each other field by field. -/
structure Ty where
  u : U
  size : Nat
  bytes : Nat
  cmp : Bool
  zero : List T
  deriving Inhabited

/-- Functions that are taken by a contract of their own. -/
inductive Prim where
  | indexByteString
  | clone (sz bytes : Nat)
  deriving Inhabited

/-- A function of the program, as the interpreter takes it: the function, which slots last beyond a region, whether its result stays as it is. -/
structure Fun where
  fn : Func
  mask : Nat
  keep : Bool
  prim : Option Prim
  deriving Inhabited

structure Ctx where
  ty : TypeId → Option Ty
  fn : FuncId → Option Fun
  gl : Nat → Option (List T)

/-! ### Small words -/

def bnd {α β : Type} (x : Option α) (f : α → Option β) : Option β := Option.casesOn x none f
def chk {α : Type} (b : Bool) (x : Option α) : Option α := Bool.casesOn b none x
def two {α β γ : Type} (p : α × β) (f : α → β → γ) : γ := Prod.casesOn p f

noncomputable def nthD {α : Type} (l : List α) : Nat → Option α :=
  @List.rec α (fun _ => Nat → Option α) (fun _ => none) (fun x _ ih n => @Nat.rec (fun _ => Option α) (some x) (fun m _ => ih m) n) l

noncomputable def setNth {α : Type} (l : List α) : Nat → α → Option (List α) :=
  @List.rec α (fun _ => Nat → α → Option (List α)) (fun _ _ => none)
    (fun x r ih n y => @Nat.rec (fun _ => Option (List α)) (some (y :: r)) (fun m _ => bnd (ih m y) fun t => some (x :: t)) n) l

noncomputable def takeN {α : Type} (n : Nat) : List α → Option (List α) :=
  @Nat.rec (fun _ => List α → Option (List α)) (fun _ => some [])
    (fun _ ih l => @List.rec α (fun _ => Option (List α)) none (fun x r _ => bnd (ih r) fun t => some (x :: t)) l) n

noncomputable def dropN {α : Type} (n : Nat) : List α → Option (List α) :=
  @Nat.rec (fun _ => List α → Option (List α)) (fun l => some l)
    (fun _ ih l => @List.rec α (fun _ => Option (List α)) none (fun _ r _ => ih r) l) n

noncomputable def lenN {α : Type} (l : List α) : Nat := @List.rec α (fun _ => Nat) 0 (fun _ _ ih => Nat.succ ih) l

noncomputable def appN {α : Type} (xs ys : List α) : Option (List α) :=
  @List.rec α (fun _ => Option (List α)) (some ys) (fun x _ ih => bnd ih fun r => some (x :: r)) xs

noncomputable def mapOpt {α β : Type} (f : α → Option β) (l : List α) : Option (List β) :=
  @List.rec α (fun _ => Option (List β)) (some []) (fun x _ ih => bnd (f x) fun y => bnd ih fun t => some (y :: t)) l

noncomputable def replicateN {α : Type} (x : α) (n : Nat) : List α := @Nat.rec (fun _ => List α) [] (fun _ ih => x :: ih) n

noncomputable def allB {α : Type} (f : α → Bool) (l : List α) : Bool := @List.rec α (fun _ => Bool) true (fun x _ ih => Bool.rec false ih (f x)) l

def normNat (n : Nat) : Option Nat := Nat.casesOn n (some 0) (fun m => some (Nat.succ m))
def normInt (n : Int) : Option Int :=
  Int.casesOn n (fun m => Nat.casesOn m (some (.ofNat 0)) (fun p => some (.ofNat (Nat.succ p)))) (fun m => Nat.casesOn m (some (.negSucc 0)) (fun p => some (.negSucc (Nat.succ p))))
def rInt (k : IntKind) (n : Int) : Option T := bnd (normInt n) fun m => some (.int k m)
def rBool (b : Bool) : Option T := Bool.casesOn b (some (.bool false)) (some (.bool true))

def kNo : IntKind → Nat
  | .i8 => 0 | .i16 => 1 | .i32 => 2 | .i64 => 3 | .u8 => 4 | .u16 => 5 | .u32 => 6 | .u64 => 7
def kEq (a b : IntKind) : Bool := Nat.beq (kNo a) (kNo b)
def ltI (a b : Int) : Bool := Int.casesOn a (fun m => Int.casesOn b (fun n => Nat.blt m n) (fun _ => false)) (fun m => Int.casesOn b (fun _ => true) (fun n => Nat.blt n m))
def eqI (a b : Int) : Bool := Int.casesOn a (fun m => Int.casesOn b (fun n => Nat.beq m n) (fun _ => false)) (fun m => Int.casesOn b (fun _ => false) (fun n => Nat.beq m n))
/-- 'k.wrap n', quick where nothing wraps. -/
def wrapF (k : IntKind) (n : Int) : Int :=
  match k with
  | .i64 => Int.casesOn n (fun m => Bool.casesOn (Nat.ble m 9223372036854775807) (IntKind.i64.wrap n) n) (fun m => Bool.casesOn (Nat.ble m 9223372036854775807) (IntKind.i64.wrap n) n)
  | k => k.wrap n
def rWrap (k : IntKind) (n : Int) : Option T := rInt k (wrapF k n)

noncomputable def eqL (a : List Nat) : List Nat → Bool :=
  @List.rec Nat (fun _ => List Nat → Bool) (fun b => List.casesOn b true (fun _ _ => false))
    (fun x _ ih b => List.casesOn b false (fun y r => Bool.rec false (ih r) (Nat.beq x y))) a

noncomputable def ltL (a : List Nat) : List Nat → Bool :=
  @List.rec Nat (fun _ => List Nat → Bool) (fun b => List.casesOn b false (fun _ _ => true))
    (fun x _ ih b => List.casesOn b false (fun y r => Bool.rec (Bool.rec false (ih r) (Nat.beq x y)) true (Nat.blt x y))) a

/-! ### The heap -/

noncomputable def H.get (h : H) (b : Nat) : Option Box :=
  H.casesOn h fun size _ boxes => chk (Nat.blt b size) (nthD boxes (Nat.sub (Nat.sub size 1) b))

/-- A new box: the value that stands for it, and the heap. -/
def H.new (v : Nat → T) (h : H) (x : Box) : Option (T × H) :=
  H.casesOn h fun size low boxes => bnd (normNat (Nat.succ size)) fun n => some (v size, ⟨n, low, x :: boxes⟩)

noncomputable def H.put (h : H) (b : Nat) (x : Box) : Option H :=
  H.casesOn h fun size low boxes => chk (Nat.blt b size)
    (bnd (setNth boxes (Nat.sub (Nat.sub size 1) b) x) fun bs => Bool.casesOn (Nat.blt b low) (some ⟨size, low, bs⟩) (some ⟨size, b, bs⟩))

noncomputable def over (cs : List T) (vs : List T) : Option (List T) :=
  @List.rec T (fun _ => List T → Option (List T)) (fun cs => some cs)
    (fun v _ ih cs => List.casesOn cs none (fun _ r => bnd (ih r) fun t => some (v :: t))) vs cs

noncomputable def splice (cs : List T) (j : Nat) (vs : List T) : Option (List T) :=
  @Nat.rec (fun _ => List T → Option (List T)) (fun cs => over cs vs)
    (fun _ ih cs => List.casesOn cs none (fun c r => bnd (ih r) fun t => some (c :: t))) j cs

def Ty.isAgg (t : Ty) : Bool := match t.u with | .struct _ | .array _ _ => true | _ => false

def headT (l : List T) : T := List.casesOn l .undef (fun x _ => x)
def Ty.zeroT (t : Ty) : T := Bool.casesOn t.isAgg (headT t.zero) (.agg t.zero)

/-- What a variable of type t holds whose first cell is the first of 'cs'. -/
noncomputable def readAs (t : Ty) (cs : List T) : Option T :=
  Bool.casesOn t.isAgg (nthD cs 0) (bnd (takeN t.size cs) fun r => some (.agg r))

noncomputable def H.elem (h : H) (b ep i : Nat) : Option T :=
  bnd (h.get b) fun x => Box.casesOn x fun _ ep' _ _ it elems => chk (Nat.beq ep' ep) (Bool.casesOn it (nthD elems i) none)

noncomputable def H.load (h : H) (t : Ty) (a : T) : Option T :=
  match a with
  | .ptr b ep i j => bnd (h.elem b ep i) fun e => bnd (dropN j e.cells) fun cs => readAs t cs
  | .tptr cs => readAs t cs
  | _ => none

noncomputable def setIn (e : T) (j : Nat) (vs : List T) : Option T :=
  match e with
  | .agg cs => bnd (splice cs j vs) fun r => some (.agg r)
  | _ => match j, vs with
    | 0, [v] => some v
    | _, _ => none

noncomputable def H.store (h : H) (t : Ty) (a v : T) : Option H :=
  match a with
  | .ptr b ep i j => chk (Nat.beq (lenN v.cells) t.size) (bnd (h.get b) fun x => Box.casesOn x fun sz ep' ver exact it elems =>
      chk (Nat.beq ep' ep) (Bool.casesOn it (bnd (nthD elems i) fun e => bnd (setIn e j v.cells) fun e' => bnd (setNth elems i e') fun es =>
        bnd (normNat (Nat.succ ver)) fun ver' => h.put b ⟨sz, ep', ver', exact, false, es⟩) none))
  | _ => none

/-- The elements of a slice. -/
noncomputable def H.items (h : H) (s : T) : Option (List T) :=
  match s with
  | .tree es _ => some es
  | .ewild => some []
  | .arr b ep o l _ => bnd (h.get b) fun x => Box.casesOn x fun _ ep' _ _ it elems => chk (Nat.beq ep' ep) (Bool.casesOn it (bnd (dropN o elems) fun r => takeN l r) none)
  | _ => none

noncomputable def fits (sz : Nat) (es : List T) : Bool := List.casesOn es true (fun e _ => Nat.beq (lenN e.cells) sz)

def newBox (sz : Nat) (exact : Bool) (es : List T) : Box := ⟨sz, 0, 0, exact, false, es⟩

/-- 'append' into new memory. -/
noncomputable def H.appendNew (h : H) (sz bytes : Nat) (old xs : List T) : Option (T × H) :=
  bnd (appN old xs) fun es => bnd (normNat (lenN es)) fun n =>
  chk (Nat.ble 1 bytes) <| chk (Nat.ble (Nat.mul n bytes) 70368744177664) (chk (fits sz old) (chk (fits sz xs) (h.new (fun b => .arr b 0 0 n false) (newBox sz false es))))

/-- 'append(s, xs..)' to a slice into a box. -/
noncomputable def H.appendOn (h : H) (sz bytes b ep l : Nat) (xs : List T) : Option (T × H) :=
  bnd (h.get b) fun x => Box.casesOn x fun sz' ep' ver _ it elems =>
    bnd (takeN l elems) fun es0 => bnd (appN es0 xs) fun es => bnd (normNat (lenN es)) fun n =>
    chk (Nat.ble 1 bytes) <| chk (Nat.beq ep' ep) (chk (Nat.beq sz' sz) (chk (Nat.ble (Nat.mul n bytes) 70368744177664) (chk (fits sz xs) (Bool.casesOn it
      (bnd (normNat (Nat.succ ep')) fun ep1 => bnd (normNat (Nat.succ ver)) fun ver1 =>
        bnd (h.put b ⟨sz', ep1, ver1, false, false, es⟩) fun h' => some (.arr b ep1 0 n false, h')) none))))

def isSliceT : T → Bool
  | .tree _ _ | .ewild | .arr .. => true
  | _ => false

/-- 'append(s, xs..)', the elements of 'sz' cells and 'bytes' bytes. -/
noncomputable def H.append (h : H) (sz bytes : Nat) (s : T) (xs : List T) : Option (T × H) :=
  List.casesOn xs (chk (isSliceT s) (some (s, h))) fun _ _ => match s with
    | .tree es full => List.casesOn es (h.appendNew sz bytes [] xs) fun _ _ => chk full (h.appendNew sz bytes es xs)
    | .arr b ep o l full => Bool.casesOn full
        (Nat.casesOn o (h.appendOn sz bytes b ep l xs) fun _ => none)
        (bnd (h.items s) fun es => h.appendNew sz bytes es xs)
    | _ => none

/-! ### Freezing: what a call hands back -/

/-- The value with every slice into a box from n on made a tree. -/
noncomputable def freeze (h : H) (n : Nat) (d : Nat) : T → Option T :=
  @Nat.rec (fun _ => T → Option T) (fun _ => none) (fun _ ih v => match v with
    | .arr b ep o l full => chk (Nat.ble n b) (bnd (h.get b) fun x => Box.casesOn x fun _ ep' _ exact it elems =>
        chk (Nat.beq ep' ep) (Bool.casesOn it (bnd (bnd (dropN o elems) fun r => takeN l r) fun es => bnd (mapOpt ih es) fun es' =>
          List.casesOn es' (List.casesOn elems (Bool.casesOn exact (some .ewild) (some (.tree [] false))) fun _ _ => some .ewild) fun _ _ => some (.tree es' full)) none))
    | .agg cs => bnd (mapOpt ih cs) fun r => some (.agg r)
    | .bool _ | .int _ _ | .str _ | .nilp | .tree _ _ | .ewild | .nilf | .nili => some v
    | _ => none) d

/-- As 'freeze', at one cell of what is handed back: what leads below n stays. -/
noncomputable def freezeCell (h : H) (n : Nat) (v : T) : Option T :=
  match v with
  | .arr b _ _ _ _ => Bool.casesOn (Nat.ble n b) (some v) (freeze h n 12 v)
  | .ptr b _ _ _ => Bool.casesOn (Nat.ble n b) (some v) none
  | .map b => Bool.casesOn (Nat.ble n b) (some v) none
  | .undef => some v
  | _ => freeze h n 12 v

noncomputable def freezeVal (h : H) (n : Nat) (v : T) : Option T :=
  match v with
  | .agg cs => bnd (mapOpt (freezeCell h n) cs) fun r => some (.agg r)
  | _ => freezeCell h n v

noncomputable def freezeTop (h : H) (n : Nat) (v : T) : Option T :=
  match v with
  | .tuple vs => bnd (mapOpt (freezeVal h n) vs) fun r => some (.tuple r)
  | _ => freezeVal h n v

/-- Nothing in this one cell leads to a box from n on. -/
def belowCell (n : Nat) : T → Bool
  | .arr b _ _ _ _ => Nat.blt b n
  | .ptr b _ _ _ => Nat.blt b n
  | .map b => Nat.blt b n
  | .bool _ | .int _ _ | .str _ | .nilp | .tree _ _ | .ewild | .nilf | .nili | .nilm | .tptr _ => true
  | _ => false

noncomputable def below (n : Nat) : T → Bool
  | .agg cs => allB (belowCell n) cs
  | .func _ cs => allB (belowCell n) cs
  | .tuple cs => allB (belowCell n) cs
  | v => belowCell n v

/-- The first k boxes of the list hold nothing that leads to n or beyond. -/
noncomputable def boxesBelow (n : Nat) (k : Nat) : List Box → Bool :=
  @Nat.rec (fun _ => List Box → Bool) (fun _ => true) (fun _ ih l => List.casesOn l true fun x r => Bool.casesOn (allB (below n) x.elems) false (ih r)) k

/-- The end of a call that began at the heap (n, low0, ..). -/
def leaveKeep (low0 : Nat) (r : T) (h : H) : Option (T × H) :=
  H.casesOn h fun size low boxes => Bool.casesOn (Nat.blt low low0) (some (r, ⟨size, low0, boxes⟩)) (some (r, ⟨size, low, boxes⟩))

noncomputable def leaveCut (n low0 : Nat) (r r' : T) (h : H) : Option (T × H) :=
  H.casesOn h fun size low boxes => bnd (dropN (Nat.sub size n) boxes) fun old =>
    Bool.casesOn (Nat.ble n low)
      (Bool.casesOn (boxesBelow n (Nat.sub n low) old) (leaveKeep low0 r ⟨size, low, boxes⟩)
        (Bool.casesOn (Nat.blt low low0) (some (r', ⟨n, low0, old⟩)) (some (r', ⟨n, low, old⟩))))
      (some (r', ⟨n, low0, old⟩))

noncomputable def leave (keep : Bool) (n low0 : Nat) (r : T) (h : H) : Option (T × H) :=
  Bool.casesOn keep (Option.casesOn (freezeTop h n r) (leaveKeep low0 r h) fun r' => leaveCut n low0 r r' h) (leaveKeep low0 r h)

/-! ### Slots and operands -/

inductive Vars where
  | nil
  | cons (s : Nat) (v : T) (r : Vars)
  deriving Inhabited

structure Env where
  vars : Vars
  tmps : Vars
  deriving Inhabited

noncomputable def look (l : Vars) (s : Nat) : Option T :=
  @Vars.rec (fun _ => Option T) none (fun k v _ ih => Bool.rec ih (some v) (Nat.beq k s)) l

noncomputable def setVar (l : Vars) (s : Nat) (v : T) : Option Vars :=
  @Vars.rec (fun _ => Option Vars) (some (.cons s v .nil)) (fun k u r ih => Bool.rec (bnd ih fun t => some (.cons k u t)) (some (.cons k v r)) (Nat.beq k s)) l

def lasts (mask s : Nat) : Bool := Nat.beq (Nat.land (Nat.shiftRight mask s) 1) 1

noncomputable def Env.get (mask : Nat) (e : Env) (s : Nat) : Option T :=
  Env.casesOn e fun vars tmps => Bool.casesOn (lasts mask s) (look tmps s) (look vars s)

noncomputable def Env.set (mask : Nat) (e : Env) (s : Nat) (v : T) : Option Env :=
  Env.casesOn e fun vars tmps => Bool.casesOn (lasts mask s) (some ⟨vars, .cons s v tmps⟩) (bnd (setVar vars s v) fun l => some ⟨l, tmps⟩)

noncomputable def Env.dst (mask : Nat) (e : Env) (d : Option Tmp) (v : T) : Option Env :=
  Option.casesOn d (some e) fun s => e.set mask s v

/-- A byte string as numbers. -/
noncomputable def bytesN (l : List UInt8) : Option (List Nat) := mapOpt (fun c => normNat c.toNat) l

noncomputable def ofCell : Value → Option T
  | .bool b => some (.bool b)
  | .int k n => some (.int k n)
  | .string s => bnd (bytesN s.data.toList) fun l => some (.str l)
  | .pointer none => some .nilp
  | .map none => some .nilm
  | .slice none 0 0 => some (.tree [] false)
  | .nilFunc => some .nilf
  | .nilIface => some .nili
  | _ => none

noncomputable def ofConst : Value → Option T
  | .agg cs => bnd (mapOpt ofCell cs.toList) fun r => some (.agg r)
  | v => ofCell v

noncomputable def opnd (cx : Ctx) (mask : Nat) (e : Env) (o : Operand) : Option T :=
  Operand.casesOn o (fun t => e.get mask t) (fun v => ofConst v) (fun g => bnd (cx.gl g) fun cs => some (.tptr cs)) (fun f => some (.func f []))

noncomputable def opnds (cx : Ctx) (mask : Nat) (e : Env) (l : List Operand) : Option (List T) := mapOpt (opnd cx mask e) l

def toIdx : T → Option Nat
  | .int _ n => Int.casesOn n (fun m => some m) (fun _ => none)
  | _ => none

/-! ### Operators -/

/-- Equality of cells of a type. -/
noncomputable def eqCell (u : U) (x y : T) : Option Bool :=
  match u with
  | .int _ => (match x with | .int k a => (match y with | .int k' b => chk (kEq k k') (some (eqI a b)) | _ => none) | _ => none)
  | .bool => (match x with | .bool a => (match y with | .bool b => some (Bool.casesOn a (Bool.casesOn b true false) b) | _ => none) | _ => none)
  | .str => (match x with | .str a => (match y with | .str b => some (eqL a b) | _ => none) | _ => none)
  | .ptr _ => (match x with
    | .nilp => (match y with | .nilp => some true | .ptr .. | .tptr _ => some false | _ => none)
    | .ptr .. | .tptr _ => (match y with | .nilp => some false | _ => none)
    | _ => none)
  | .func => (match x with
    | .nilf => (match y with | .nilf => some true | .func .. => some false | _ => none)
    | .func .. => (match y with | .nilf => some false | _ => none)
    | _ => none)
  | .iface => (match x with
    | .nili => (match y with | .nili => some true | .iface .. => some false | _ => none)
    | .iface .. => (match y with | .nili => some false | _ => none)
    | _ => none)
  | _ => none

/-- Numbers, bools, strings. -/
def U.plain : U → Bool
  | .int _ | .bool | .str => true
  | _ => false

/-- Equality field by field; the fields are numbers, bools, strings, one behind the other from cell i on. -/
noncomputable def eqFields (cx : Ctx) (fs : List (Nat × TypeId)) : Nat → List T → List T → Option Bool :=
  @List.rec (Nat × TypeId) (fun _ => Nat → List T → List T → Option Bool) (fun _ _ _ => some true)
    (fun f _ ih i a b => List.casesOn a none fun x r => List.casesOn b none fun y s => chk (Nat.beq f.1 i) (bnd (cx.ty f.2) fun ty => chk ty.u.plain
      (bnd (eqCell ty.u x y) fun t => Bool.casesOn t (some false) (ih (Nat.succ i) r s)))) fs

noncomputable def eqElems (u : U) (a : List T) : List T → Option Bool :=
  @List.rec T (fun _ => List T → Option Bool) (fun b => List.casesOn b (some true) fun _ _ => none)
    (fun x _ ih b => List.casesOn b none fun y r => bnd (eqCell u x y) fun t => Bool.casesOn t (some false) (ih r)) a

noncomputable def eqT (cx : Ctx) (ty : Ty) (x y : T) : Option Bool :=
  match ty.u with
  | .struct fs => (match x with
    | .agg a => (match y with
      | .agg b => chk ty.cmp (eqFields cx fs 0 a b)
      | _ => none)
    | _ => none)
  | .array n e => (match x with
    | .agg a => (match y with
      | .agg b => chk ty.cmp (bnd (cx.ty e) fun te => chk te.u.plain (chk (Nat.beq te.size 1) (chk (Nat.beq (lenN a) n) (eqElems te.u a b))))
      | _ => none)
    | _ => none)
  | u => eqCell u x y

def int2 (x y : T) (f : IntKind → Int → Int → Option T) : Option T :=
  match x with
  | .int k a => (match y with | .int k' b => chk (kEq k k') (f k a b) | _ => none)
  | _ => none

def shift2 (x y : T) (f : IntKind → Int → Nat → Option T) : Option T :=
  match x with
  | .int k a => (match y with | .int _ b => Int.casesOn b (fun n => f k a (min n k.bits)) (fun _ => none) | _ => none)
  | _ => none

def cmp2 (x y : T) (f : Int → Int → Bool) (g : List Nat → List Nat → Bool) : Option T :=
  match x with
  | .int k a => (match y with | .int k' b => chk (kEq k k') (rBool (f a b)) | _ => none)
  | .str a => (match y with | .str b => rBool (g a b) | _ => none)
  | _ => none

noncomputable def addT (x y : T) : Option T :=
  match x with
  | .str a => (match y with
    | .str b => bnd (appN a b) fun s => chk (Nat.ble (lenN s) 4294967296) (some (.str s))
    | _ => none)
  | _ => int2 x y fun k a b => rWrap k (a + b)

/-- The operators other than == and !=. -/
noncomputable def binop : BinOp → T → T → Option T
  | .add => addT
  | .sub => fun x y => int2 x y fun k a b => rWrap k (a - b)
  | .mul => fun x y => int2 x y fun k a b => rWrap k (a * b)
  | .quo => fun x y => int2 x y fun k a b => Bool.casesOn (eqI b 0) (rWrap k (a.tdiv b)) none
  | .rem => fun x y => int2 x y fun k a b => Bool.casesOn (eqI b 0) (rInt k (a.tmod b)) none
  | .and => fun x y => int2 x y fun k a b => rInt k (k.wrap (BitVec.ofInt k.bits a &&& BitVec.ofInt k.bits b).toNat)
  | .or => fun x y => int2 x y fun k a b => rInt k (k.wrap (BitVec.ofInt k.bits a ||| BitVec.ofInt k.bits b).toNat)
  | .xor => fun x y => int2 x y fun k a b => rInt k (k.wrap (BitVec.ofInt k.bits a ^^^ BitVec.ofInt k.bits b).toNat)
  | .shl => fun x y => shift2 x y fun k a n => rInt k (k.wrap (a * 2 ^ n))
  | .shr => fun x y => shift2 x y fun k a n => rInt k (a.fdiv (2 ^ n))
  | .lss => fun x y => cmp2 x y ltI ltL
  | .leq => fun x y => cmp2 x y (fun a b => !ltI b a) (fun a b => !ltL b a)
  | .gtr => fun x y => cmp2 x y (fun a b => ltI b a) (fun a b => ltL b a)
  | .geq => fun x y => cmp2 x y (fun a b => !ltI a b) (fun a b => !ltL a b)
  | _ => fun _ _ => none

def unop : UnOp → T → Option T
  | .neg => fun x => (match x with | .int k n => rWrap k (0 - n) | _ => none)
  | .not => fun x => (match x with | .bool b => Bool.casesOn b (some (.bool true)) (some (.bool false)) | _ => none)
  | _ => fun _ => none

noncomputable def conv (cx : Ctx) (dst : TypeId) (x : T) : Option T :=
  bnd (cx.ty dst) fun d => match d.u with
    | .int k => (match x with | .int _ n => rWrap k n | _ => none)
    | .str => (match x with | .str s => some (.str s) | _ => none)
    | _ => none

/-- '[]byte(s)': the cells of the new row, where the type is one of bytes. -/
noncomputable def bytesT (cx : Ctx) (dst : TypeId) (x : T) : Option T :=
  bnd (cx.ty dst) fun d => match d.u with
    | .slice e => (match x with
      | .str s => bnd (cx.ty e) fun te => (match te.u with
        | .int k => chk (kEq k .u8) (List.casesOn s (some .ewild) fun _ _ => bnd (mapOpt (fun c => some (T.int .u8 (.ofNat c))) s) fun es => some (.tree es false))
        | _ => none)
      | _ => none)
    | _ => none

noncomputable def fieldOf (cx : Ctx) (t : TypeId) (f : Nat) : Option (Nat × TypeId) :=
  bnd (cx.ty t) fun ty => match ty.u with | .struct fs => nthD fs f | _ => none

noncomputable def fillCells (place : Nat → Option (Nat × Nat)) (ps : List (Nat × T)) : List T → Option (List T) :=
  @List.rec (Nat × T) (fun _ => List T → Option (List T)) (fun cs => some cs)
    (fun p _ ih cs => bnd (place p.1) fun q => chk (Nat.beq (lenN p.2.cells) q.2) (bnd (splice cs q.1 p.2.cells) fun cs' => ih cs')) ps

noncomputable def fillElems (sz : Nat) (ps : List (Nat × T)) : List T → Option (List T) :=
  @List.rec (Nat × T) (fun _ => List T → Option (List T)) (fun es => some es)
    (fun p _ ih es => two p fun i v => chk (Nat.beq (lenN v.cells) sz) (bnd (setNth es i v) fun es' => ih es')) ps

noncomputable def partsOf (cx : Ctx) (mask : Nat) (e : Env) (l : List (Nat × Operand)) : Option (List (Nat × T)) :=
  mapOpt (fun p => two p fun i o => bnd (opnd cx mask e o) fun x => chk x.good (some (i, x))) l

noncomputable def optIdx (cx : Ctx) (mask : Nat) (e : Env) (x : Option Operand) : Option (Option Nat) :=
  Option.casesOn x (some none) fun o => bnd (opnd cx mask e o) fun v => bnd (toIdx v) fun n => some (some n)

def optD (x : Option Nat) (d : Nat) : Nat := Option.casesOn x d fun n => n

noncomputable def cutL {α : Type} (l : List α) (lo hi : Nat) : Option (List α) := bnd (dropN lo l) fun r => takeN (Nat.sub hi lo) r

noncomputable def sliceTree (es : List T) (full : Bool) (lo hi : Nat) (mx : Option Nat) : Option T :=
  chk (Nat.ble lo hi) (bnd (cutL es lo hi) fun r => Option.casesOn mx
    (List.casesOn r (List.casesOn es (some (.tree [] false)) fun _ _ => some .ewild) fun _ _ => some (.tree r (Bool.casesOn full false (Nat.beq hi (lenN es)))))
    fun m => chk (Nat.beq m hi) (List.casesOn r (some (.tree [] false)) fun _ _ => some (.tree r true)))

noncomputable def sliceArr (b ep o l : Nat) (full : Bool) (lo hi : Nat) (mx : Option Nat) : Option T :=
  chk (Nat.ble lo hi) (chk (Nat.ble hi l) (bnd (normNat (Nat.add o lo)) fun o' => bnd (normNat (Nat.sub hi lo)) fun l' => Option.casesOn mx
    (Bool.casesOn full (some (.arr b ep o' l' false)) (chk (Nat.beq hi l) (some (.arr b ep o' l' true))))
    fun m => chk (Nat.beq m hi) (some (.arr b ep o' l' true))))

noncomputable def sliceT (x : T) (lo hi mx : Option Nat) : Option T :=
  match x with
  | .str s => Option.casesOn mx (chk (Nat.ble (optD lo 0) (optD hi (lenN s))) (bnd (cutL s (optD lo 0) (optD hi (lenN s))) fun r => some (.str r))) fun _ => none
  | .tree es full => sliceTree es full (optD lo 0) (optD hi (lenN es)) mx
  | .ewild => chk (Nat.beq (optD lo 0) 0) (chk (Nat.beq (optD hi 0) 0) (Option.casesOn mx (some .ewild) fun m => chk (Nat.beq m 0) (some (.tree [] false))))
  | .arr b ep o l full => sliceArr b ep o l full (optD lo 0) (optD hi l) mx
  | _ => none

/-! ### Operations, a handler each -/

/-- What an operation comes to: a value; a call that is to be made. -/
inductive Did where
  | val (v : T) (h : H)
  | call (f : FuncId) (args : List T)
  deriving Inhabited

def val (h : H) (x : Option T) : Option Did := bnd x fun v => some (.val v h)
def valNew (x : Option (T × H)) : Option Did := bnd x fun r => two r fun v h => some (.val v h)

abbrev Hd := Ctx → Nat → Env → H → Option Did

noncomputable def hMove (x : Operand) : Hd := fun cx mask e h => val h (opnd cx mask e x)
noncomputable def hPick (c a b : Operand) : Hd := fun cx mask e h =>
  bnd (opnd cx mask e c) fun c => match c with
    | .bool t => Bool.casesOn t (val h (opnd cx mask e b)) (val h (opnd cx mask e a))
    | _ => none
/-- An array of bytes is laid element by element. -/
noncomputable def isBytes (cx : Ctx) (ty : Ty) : Bool :=
  match ty.u with
  | .array _ el => Option.casesOn (cx.ty el) false fun te => (match te.u with | .int k => kEq k .u8 | _ => false)
  | _ => false
noncomputable def hAlloc (t : TypeId) : Hd := fun cx _ _ h => bnd (cx.ty t) fun ty => Bool.casesOn (isBytes cx ty)
  (valNew (h.new (fun b => .ptr b 0 0 0) (newBox ty.size true [ty.zeroT])))
  (valNew (h.new (fun b => .ptr b 0 0 0) (newBox 1 true ty.zero)))
noncomputable def hBox (x : Operand) : Hd := fun cx mask e h => bnd (opnd cx mask e x) fun v => chk v.good (valNew (h.new (fun b => .ptr b 0 0 0) (newBox (lenN v.cells) true [v])))
noncomputable def hBuild (t : TypeId) (parts : Array (Nat × Operand)) : Hd := fun cx mask e h =>
  bnd (cx.ty t) fun ty => bnd (partsOf cx mask e parts.toList) fun ps => match ty.u with
    | .struct fs => bnd (fillCells (fun i => bnd (nthD fs i) fun f => bnd (cx.ty f.2) fun tf => some (f.1, tf.size)) ps ty.zero) fun cs => val h (some (.agg cs))
    | .array _ el => bnd (cx.ty el) fun te => bnd (fillCells (fun i => some (Nat.mul i te.size, te.size)) ps ty.zero) fun cs => val h (some (.agg cs))
    | _ => none
noncomputable def hBuildSlice (t : TypeId) (len : Nat) (parts : Array (Nat × Operand)) : Hd := fun cx mask e h =>
  bnd (cx.ty t) fun ty => match ty.u with
    | .slice el => bnd (cx.ty el) fun te => bnd (partsOf cx mask e parts.toList) fun ps =>
        chk (Nat.ble 1 te.size) <| chk (Nat.ble (Nat.mul len te.size) 65536) (bnd (fillElems te.size ps (replicateN te.zeroT len)) fun es =>
          valNew (h.new (fun b => .arr b 0 0 len false) (newBox te.size true es)))
    | _ => none
noncomputable def hLoad (t : TypeId) (a : Operand) : Hd := fun cx mask e h => bnd (cx.ty t) fun ty => bnd (opnd cx mask e a) fun a => val h (h.load ty a)
noncomputable def hStore (t : TypeId) (a x : Operand) : Hd := fun cx mask e h =>
  bnd (cx.ty t) fun ty => bnd (opnd cx mask e a) fun a => bnd (opnd cx mask e x) fun v => chk v.good (bnd (h.store ty a v) fun h' => some (.val .undef h'))
noncomputable def hNilCheck (x : Operand) : Hd := fun cx mask e h => bnd (opnd cx mask e x) fun v => match v with
  | .ptr .. | .tptr _ | .func .. => some (.val v h)
  | _ => none
/-- Two nil interface values are held against each other only where one of them is the literal nil. -/
def nilOk (x y : Operand) (a b : T) : Bool :=
  match a with
  | .nili => (match b with | .nili => Region.isConst x || Region.isConst y | _ => true)
  | _ => true
noncomputable def hEq (neg : Bool) (t : TypeId) (x y : Operand) : Hd := fun cx mask e h =>
  bnd (cx.ty t) fun ty => bnd (opnd cx mask e x) fun a => bnd (opnd cx mask e y) fun b =>
    chk (nilOk x y a b) (bnd (eqT cx ty a b) fun r => val h (rBool (Bool.casesOn neg r (!r))))
noncomputable def hBin (op : BinOp) (x y : Operand) : Hd := fun cx mask e h =>
  bnd (opnd cx mask e x) fun a => bnd (opnd cx mask e y) fun b => val h (binop op a b)
noncomputable def hUn (op : UnOp) (x : Operand) : Hd := fun cx mask e h => bnd (opnd cx mask e x) fun a => val h (unop op a)
/-- A byte as a number. -/
def byteOf (v : T) : Option Nat := match v with
  | .int k n => chk (kEq k .u8) (Int.casesOn n (fun c => chk (Nat.blt c 256) (some c)) (fun _ => none))
  | _ => none
/-- 'string(b)' of a slice of bytes. -/
noncomputable def strT (cx : Ctx) (h : H) (src : TypeId) (x : T) : Option T :=
  bnd (cx.ty src) fun s => match s.u with
    | .slice e => bnd (cx.ty e) fun te => (match te.u with
      | .int k => chk (kEq k .u8) (bnd (h.items x) fun es => bnd (mapOpt byteOf es) fun bs => chk (Nat.ble (lenN bs) 4294967296) (some (.str bs)))
      | _ => none)
    | _ => none
noncomputable def hConv (src dst : TypeId) (x : Operand) : Hd := fun cx mask e h => bnd (cx.ty src) fun _ => bnd (opnd cx mask e x) fun a =>
  bnd (cx.ty dst) fun d => match d.u with
    | .slice _ => val h (bytesT cx dst a)
    | .str => (match a with
      | .str _ => val h (conv cx dst a)
      | _ => val h (strT cx h src a))
    | _ => val h (conv cx dst a)
noncomputable def hIface (t : TypeId) (x : Operand) : Hd := fun cx mask e h => bnd (cx.ty t) fun ty => match ty.u with
  | .iface => none
  | _ => bnd (opnd cx mask e x) fun a => chk a.good (val h (some (.iface t a)))
noncomputable def hFunc (fn : Fn) (first captured : Array Operand) : Hd := fun cx mask e h => match fn with
  | .func f => (match first.toList with
    | [] => bnd (opnds cx mask e captured.toList) fun cs => val h (some (.func f cs))
    | _ => none)
  | _ => none
noncomputable def hMakeSlice (t : TypeId) (l c : Operand) : Hd := fun cx mask e h => bnd (cx.ty t) fun ty => match ty.u with
  | .slice el => bnd (cx.ty el) fun te => bnd (opnd cx mask e l) fun l => bnd (opnd cx mask e c) fun c => bnd (toIdx l) fun l => bnd (toIdx c) fun c =>
      chk (Nat.ble 1 te.size) <| chk (Nat.ble 1 te.bytes) <| chk (Nat.ble l c) (chk (Nat.ble (Nat.mul c te.bytes) 70368744177664) (valNew (h.new (fun b => .arr b 0 0 l false) (newBox te.size (Nat.beq l c) (replicateN te.zeroT l)))))
  | _ => none
/-- The third bound stands only behind the second. -/
def mxOk (hi mx : Option Nat) : Bool := Option.casesOn mx true fun _ => Option.casesOn hi false fun _ => true
/-- The type and the value fit: a string; a slice of elements of known size. -/
noncomputable def sliceable (cx : Ctx) (h : H) (u : U) (x : T) : Bool :=
  match u with
  | .str => (match x with | .str _ => true | _ => false)
  | .slice e => Option.casesOn (cx.ty e) false fun te => (match x with
    | .tree es _ => fits te.size es
    | .ewild => true
    | .arr b _ _ _ _ => Option.casesOn (h.get b) false fun bx => Nat.beq bx.sz te.size
    | _ => false)
  | .array n e => Option.casesOn (cx.ty e) false fun te => (match x with
    | .ptr b ep i j => Option.casesOn (h.get b) false fun bx => Box.casesOn bx fun sz ep' _ exact it elems =>
        Nat.beq sz te.size && Nat.beq ep' ep && Nat.beq i 0 && Nat.beq j 0 && exact && !it && Nat.beq (lenN elems) n
    | _ => false)
  | _ => false
/-- An array's pointer as the slice of all its elements. -/
def asSlice (u : U) (x : T) : T := match u with
  | .array n _ => (match x with | .ptr b ep _ _ => .arr b ep 0 n false | _ => x)
  | _ => x
noncomputable def hSlice (t : TypeId) (x : Operand) (lo hi mx : Option Operand) : Hd := fun cx mask e h => bnd (cx.ty t) fun ty => 
  bnd (opnd cx mask e x) fun x => chk (sliceable cx h ty.u x) <| bnd (optIdx cx mask e lo) fun lo => bnd (optIdx cx mask e hi) fun hi => bnd (optIdx cx mask e mx) fun mx => chk (mxOk hi mx) (val h (sliceT (asSlice ty.u x) lo hi mx))
noncomputable def hFieldAddr (t : TypeId) (x : Operand) (f : Nat) : Hd := fun cx mask e h => bnd (fieldOf cx t f) fun fd => bnd (opnd cx mask e x) fun x => match x with
  | .ptr b ep i j => bnd (normNat (Nat.add j fd.1)) fun j' => some (.val (.ptr b ep i j') h)
  | .tptr cs => bnd (dropN fd.1 cs) fun cs' => some (.val (.tptr cs') h)
  | _ => none
noncomputable def hField (t : TypeId) (x : Operand) (f : Nat) : Hd := fun cx mask e h =>
  bnd (fieldOf cx t f) fun fd => bnd (cx.ty fd.2) fun tf => bnd (opnd cx mask e x) fun x => match x with
    | .agg cs => bnd (dropN fd.1 cs) fun r => val h (readAs tf r)
    | _ => none
noncomputable def idxSlice (h : H) (te : Ty) (x : T) (i : Nat) : Option Did :=
  match x with
  | .tree es _ => bnd (nthD es i) fun v => chk (Nat.beq (lenN v.cells) te.size) (some (.val (.tptr v.cells) h))
  | .arr b ep o l _ => chk (Nat.blt i l) (bnd (h.get b) fun bx => chk (Nat.beq bx.sz te.size) <| chk (Nat.beq bx.ep ep) (bnd (normNat (Nat.add o i)) fun k => some (.val (.ptr b ep k 0) h)))
  | _ => none
noncomputable def idxArray (h : H) (n : Nat) (te : Ty) (x : T) (i : Nat) : Option Did :=
  chk (Nat.blt i n) (match x with
    | .ptr b ep i0 j => bnd (h.get b) fun bx => Bool.casesOn (Nat.beq bx.sz te.size)
        (bnd (normNat (Nat.add j (Nat.mul i te.size))) fun j' => some (.val (.ptr b ep i0 j') h))
        (chk (Nat.beq j 0) (bnd (normNat (Nat.add i0 i)) fun i' => some (.val (.ptr b ep i' 0) h)))
    | .tptr cs => bnd (dropN (Nat.mul i te.size) cs) fun cs' => some (.val (.tptr cs') h)
    | _ => none)
noncomputable def hIndexAddr (t : TypeId) (x ix : Operand) : Hd := fun cx mask e h =>
  bnd (cx.ty t) fun ty => bnd (opnd cx mask e x) fun x => bnd (opnd cx mask e ix) fun ix => bnd (toIdx ix) fun i => match ty.u with
    | .slice el => bnd (cx.ty el) fun te => idxSlice h te x i
    | .array n el => bnd (cx.ty el) fun te => idxArray h n te x i
    | _ => none
noncomputable def hIndex (t : TypeId) (x ix : Operand) : Hd := fun cx mask e h =>
  bnd (cx.ty t) fun ty => bnd (opnd cx mask e x) fun x => bnd (opnd cx mask e ix) fun ix => bnd (toIdx ix) fun i => match ty.u with
    | .str => (match x with | .str s => bnd (nthD s i) fun c => val h (some (.int .u8 (.ofNat c))) | _ => none)
    | .array n el => (match x with
      | .agg cs => bnd (cx.ty el) fun te => chk (Nat.blt i n) (bnd (dropN (Nat.mul i te.size) cs) fun r => val h (readAs te r))
      | _ => none)
    | _ => none
/-- The entries of a map. -/
noncomputable def H.entries (h : H) (x : T) : Option (List T) :=
  match x with
  | .nilm => some []
  | .map b => bnd (h.get b) fun bx => Box.casesOn bx fun _ _ _ _ it elems => chk it (some elems)
  | _ => none
/-- The entries of a map, not an iterator's. -/
def mapLike (es : List T) : Bool := match es with
  | [] => true
  | .tuple _ :: _ => true
  | _ => false
/-- Where the entry with a key stands, and its value; the keys are numbers, bools, strings. -/
noncomputable def findEnt (u : U) (k : T) (l : List T) : Nat → Option (Option (Nat × T)) :=
  @List.rec T (fun _ => Nat → Option (Option (Nat × T))) (fun _ => some none)
    (fun e _ ih i => match e with
      | .tuple [k', v] => bnd (eqCell u k k') fun t => Bool.casesOn t (bnd (normNat (Nat.succ i)) fun i' => ih i') (some (some (i, v)))
      | _ => none) l
/-- The key is of the key type's kind. -/
def keyOk (u : U) (k : T) : Bool := match u with
  | .int k' => (match k with | .int k'' _ => kEq k' k'' | _ => false)
  | .bool => (match k with | .bool _ => true | _ => false)
  | .str => (match k with | .str _ => true | _ => false)
  | _ => false
/-- A key that is an array of numbers. -/
noncomputable def keyArr (cx : Ctx) (u : U) (k : T) : Bool :=
  match u with
  | .array n e => (match k with
    | .agg cs => Bool.casesOn (Nat.beq (lenN cs) n) false (Option.casesOn (cx.ty e) false fun te => Bool.casesOn (Nat.beq te.size 1) false (match te.u with
        | .int kd => allB (fun c => match c with | .int kd' _ => kEq kd kd' | _ => false) cs
        | _ => false))
    | _ => false)
  | _ => false
noncomputable def findArr (u : U) (cs : List T) (l : List T) : Nat → Option (Option (Nat × T)) :=
  @List.rec T (fun _ => Nat → Option (Option (Nat × T))) (fun _ => some none)
    (fun e _ ih i => match e with
      | .tuple [.agg cs', v] => bnd (eqElems u cs cs') fun t => Bool.casesOn t (bnd (normNat (Nat.succ i)) fun i' => ih i') (some (some (i, v)))
      | _ => none) l
/-- The key is one that may be held against others; where its entry stands. -/
noncomputable def keyAny (cx : Ctx) (u : U) (k : T) : Bool := Bool.casesOn (keyOk u k) (keyArr cx u k) true
noncomputable def findAny (cx : Ctx) (u : U) (k : T) (l : List T) (i : Nat) : Option (Option (Nat × T)) :=
  match u with
  | .array _ e => (match k with
    | .agg cs => bnd (cx.ty e) fun te => findArr te.u cs l i
    | _ => none)
  | _ => findEnt u k l i
noncomputable def hMakeMap (t : TypeId) (r : Option Operand) : Hd := fun cx _ _ h => Option.casesOn r
  (bnd (cx.ty t) fun ty => (match ty.u with
    | .map _ _ => valNew (h.new (fun b => .map b) ⟨0, 0, 0, true, true, []⟩)
    | _ => none))
  fun _ => none
noncomputable def hLookup (t : TypeId) (x ix : Operand) (ok : Bool) : Hd := fun cx mask e h => bnd (cx.ty t) fun ty => match ty.u with
  | .map kt et => bnd (cx.ty kt) fun tk => bnd (cx.ty et) fun te => bnd (opnd cx mask e x) fun x => bnd (opnd cx mask e ix) fun k => chk (keyOk tk.u k)
      (bnd (h.entries x) fun es => bnd (findEnt tk.u k es 0) fun r => Option.casesOn r
        (Bool.casesOn ok (val h (some te.zeroT)) (val h (some (.tuple [te.zeroT, .bool false]))))
        fun p => two p fun _ v => Bool.casesOn ok (val h (some v)) (val h (some (.tuple [v, .bool true]))))
  | _ => none
noncomputable def hMapUpdate (t : TypeId) (m ix x : Operand) : Hd := fun cx mask e h => bnd (cx.ty t) fun ty => match ty.u with
  | .map kt _ => bnd (cx.ty kt) fun tk => bnd (opnd cx mask e m) fun m => bnd (opnd cx mask e ix) fun k => bnd (opnd cx mask e x) fun v => chk (keyAny cx tk.u k) (chk v.good
      (match m with
      | .map b => bnd (h.get b) fun bx => Box.casesOn bx fun sz ep ver exact it es => chk it (bnd (findAny cx tk.u k es 0) fun r => bnd (normNat (Nat.succ ver)) fun ver' => Option.casesOn r
          (bnd (appN es [.tuple [k, v]]) fun es' => bnd (h.put b ⟨sz, ep, ver', exact, true, es'⟩) fun h' => some (.val .undef h'))
          fun p => two p fun i _ => bnd (setNth es i (.tuple [k, v])) fun es' => bnd (h.put b ⟨sz, ep, ver', exact, true, es'⟩) fun h' => some (.val .undef h'))
      | _ => none))
  | _ => none
noncomputable def hExtract (x : Operand) (i : Nat) : Hd := fun cx mask e h => bnd (opnd cx mask e x) fun v => match v with | .tuple vs => val h (nthD vs i) | _ => none
noncomputable def hRange (x : Operand) : Hd := fun cx mask e h => bnd (opnd cx mask e x) fun v => match v with
  | .str s => valNew (h.new (fun b => .iter b) ⟨1, 0, 0, true, true, [.str s, .int .i64 0]⟩)
  | _ => none

/-- An iterator over a map: the map, how many entries came out, how many the map had at the start and at the last step. -/
noncomputable def hRangeM (x : Operand) : Hd := fun cx mask e h => bnd (opnd cx mask e x) fun v => match v with
  | .map b => bnd (h.entries v) fun es => chk (mapLike es) (bnd (normNat (lenN es)) fun n => valNew (h.new (fun b => .iter b) ⟨1, 0, 0, true, true, [.map b, .int .i64 0, .int .i64 (.ofNat n), .int .i64 (.ofNat n)]⟩))
  | _ => none

noncomputable def hRangeAt (t : TypeId) (x : Operand) : Hd := fun cx mask e h => bnd (cx.ty t) fun ty => match ty.u with
  | .str => hRange x cx mask e h
  | .map _ _ => hRangeM x cx mask e h
  | _ => none

/-- A string's next character, and how many bytes it takes. -/
noncomputable def nextChar (s : List Nat) (pos : Nat) : Option (Nat × Nat) := bnd (nthD s pos) fun c => Bool.casesOn (Nat.blt c 128) (Bool.casesOn (Nat.blt c 256) (some (65533, 1)) (some (Utf8.decode ⟨(s.map UInt8.ofNat).toArray⟩ pos))) (some (c, 1))

noncomputable def hNextS (it : Operand) : Hd := fun cx mask e h => (bnd (opnd cx mask e it) fun v => match v with
  | .iter b => bnd (h.get b) fun x => chk x.it (match x.elems with
    | [.str s, .int _ (.ofNat pos)] => Bool.casesOn (Nat.blt pos (lenN s)) (some (.val (.tuple [.bool false]) h))
        (bnd (nextChar s pos) fun q => two q fun c wd => bnd (normNat (Nat.add pos wd)) fun pos' => bnd (normNat (Nat.succ x.ver)) fun ver =>
          bnd (h.put b ⟨x.sz, x.ep, ver, x.exact, true, [.str s, .int .i64 (.ofNat pos')]⟩) fun h' =>
            some (.val (.tuple [.bool true, .int .i64 (.ofNat pos), .int .i32 (.ofNat c)]) h'))
    | _ => none)
  | _ => none)

/-- A step of an iterator over a map of at most one entry. -/
noncomputable def hNextM (it : Operand) : Hd := fun cx mask e h => (bnd (opnd cx mask e it) fun v => match v with
  | .iter b => bnd (h.get b) fun x => chk x.it (match x.elems with
    | [.map mb, .int _ (.ofNat pos), .int _ (.ofNat since), .int _ (.ofNat _)] => bnd (h.entries (.map mb)) fun es => chk (mapLike es) <| chk (Nat.ble (lenN es) 1) <| chk (Nat.beq (lenN es) since)
        (Bool.casesOn (Nat.blt pos (lenN es)) (some (.val (.tuple [.bool false]) h))
          (bnd (nthD es pos) fun en => match en with
            | .tuple [k, u] => bnd (normNat (Nat.succ pos)) fun pos' => bnd (normNat (Nat.succ x.ver)) fun ver => bnd (normNat (lenN es)) fun n =>
              bnd (h.put b ⟨x.sz, x.ep, ver, x.exact, true, [.map mb, .int .i64 (.ofNat pos'), .int .i64 (.ofNat since), .int .i64 (.ofNat n)]⟩) fun h' => some (.val (.tuple [.bool true, k, u]) h')
            | _ => none))
    | _ => none)
  | _ => none)

noncomputable def hNext (it : Operand) (isStr : Bool) : Hd := fun cx mask e h => Bool.casesOn isStr (hNextM it cx mask e h) (hNextS it cx mask e h)

/-- The entry that the last step gave. -/
noncomputable def hEntry (it : Operand) : Hd := fun cx mask e h => (bnd (opnd cx mask e it) fun v => match v with
  | .iter b => bnd (h.get b) fun x => chk x.it (match x.elems with
    | [.map mb, .int _ (.ofNat pos), .int _ (.ofNat _), .int _ (.ofNat c0)] => bnd (h.entries (.map mb)) fun es => chk (mapLike es) <| chk (Nat.beq (lenN es) c0)
        (Nat.casesOn pos none fun p => bnd (nthD es p) fun en => match en with
            | .tuple [k, u] => some (.val (.tuple [k, u]) h)
            | _ => none)
    | _ => none)
  | _ => none)

noncomputable def bLen (cx : Ctx) (h : H) (ts : List TypeId) (x : T) : Option Did :=
  bnd (nthD ts 0) fun t => bnd (cx.ty t) fun ty => match ty.u with
    | .str => (match x with
      | .str s => val h (bnd (normNat (lenN s)) fun n => some (.int .i64 (.ofNat n)))
      | _ => none)
    | .slice _ => (match x with
      | .tree es _ => val h (bnd (normNat (lenN es)) fun n => some (.int .i64 (.ofNat n)))
      | .ewild => val h (some (.int .i64 0))
      | .arr _ _ _ l _ => val h (some (.int .i64 (.ofNat l)))
      | _ => none)
    | .array n _ => val h (some (.int .i64 (.ofNat n)))
    | _ => none

noncomputable def elemTy (cx : Ctx) (t : TypeId) : Option Ty :=
  bnd (cx.ty t) fun ty => match ty.u with | .slice e => cx.ty e | _ => none

/-- What is appended: the elements of a slice, the bytes of a string; by the type it is no count. -/
noncomputable def srcItems (cx : Ctx) (h : H) (t : TypeId) (x : T) : Option (List T) :=
  bnd (cx.ty t) fun ty => match ty.u with
    | .str => (match x with | .str bs => mapOpt (fun c => some (T.int .u8 (.ofNat c))) bs | _ => none)
    | .slice _ => h.items x
    | _ => none

noncomputable def bAppend (cx : Ctx) (h : H) (t tx : TypeId) (s x : T) : Option Did :=
  bnd (elemTy cx t) fun te => bnd (srcItems cx h tx x) fun xs => chk (fits te.size xs) (valNew (h.append te.size te.bytes s xs))

/-- 'clear(s)' of a slice. -/
noncomputable def bClear (cx : Ctx) (h : H) (t : TypeId) (x : T) : Option Did :=
  bnd (elemTy cx t) fun te => match x with
    | .tree es _ => List.casesOn es (some (.val .undef h)) fun _ _ => none
    | .ewild => some (.val .undef h)
    | .arr b ep o l _ => Nat.casesOn l (some (.val .undef h)) fun _ => bnd (h.get b) fun bx => Box.casesOn bx fun sz ep' ver exact it elems =>
        chk (Nat.beq ep' ep) <| chk (Nat.beq sz te.size) (Bool.casesOn it
          (bnd (splice elems o (replicateN te.zeroT l)) fun es => bnd (normNat (Nat.succ ver)) fun ver' =>
            bnd (h.put b ⟨sz, ep', ver', exact, false, es⟩) fun h' => some (.val .undef h')) none)
    | _ => none

noncomputable def builtinT : Builtin → Ctx → H → List TypeId → List T → Option Did
  | .clear => fun cx h ts args => (match args with | [x] => (match ts with | [t] => bClear cx h t x | _ => none) | _ => none)
  | .len => fun cx h ts args => (match args with | [x] => bLen cx h ts x | _ => none)
  | .append => fun cx h ts args => (match args with | [s, x] => (match ts with | [t, tx] => bAppend cx h t tx s x | _ => none) | _ => none)
  | .min => fun _ h _ args => (match args with | [x, y] => val h (int2 x y fun k a b => rInt k (Bool.casesOn (ltI b a) a b)) | _ => none)
  | .max => fun _ h _ args => (match args with | [x, y] => val h (int2 x y fun k a b => rInt k (Bool.casesOn (ltI a b) a b)) | _ => none)
  | _ => fun _ _ _ _ => none

noncomputable def hCall (c : Call) : Hd := fun cx mask e h => bnd (opnds cx mask e c.args.toList) fun args => match c.callee with
  | .builtin b => builtinT b cx h c.argTypes.toList args
  | .value f => bnd (opnd cx mask e f) fun v => (match v with
    | .func f cap => bnd (appN args cap) fun l => some (.call f l)
    | _ => none)
  | _ => none

noncomputable def opH : Op → Hd
  | .move x => hMove x
  | .assign x => hMove x
  | .pick c a b => hPick c a b
  | .alloc t => hAlloc t
  | .box _ x => hBox x
  | .build t ps => hBuild t ps
  | .buildSlice t n ps => hBuildSlice t n ps
  | .load t a => hLoad t a
  | .store t a x => hStore t a x
  | .nilCheck x => hNilCheck x
  | .binOp op t x y _ => (match op with | .eql => hEq false t x y | .neq => hEq true t x y | _ => hBin op x y)
  | .unOp op _ x => hUn op x
  | .convert src dst x => hConv src dst x
  | .makeInterface t x => hIface t x
  | .makeFunc fn a b => hFunc fn a b
  | .makeSlice t l c => hMakeSlice t l c
  | .slice t x lo hi mx => hSlice t x lo hi mx
  | .fieldAddr t x f => hFieldAddr t x f
  | .field t x f => hField t x f
  | .indexAddr t x i => hIndexAddr t x i
  | .index t x i => hIndex t x i
  | .extract x i => hExtract x i
  | .makeMap t r => hMakeMap t r
  | .lookup t x i ok => hLookup t x i ok
  | .mapUpdate t m k x => hMapUpdate t m k x
  | .range t x => hRangeAt t x
  | .next it s => hNext it s
  | .entry it => hEntry it
  | .call c => hCall c
  | _ => fun _ _ _ _ => none

/-! ### Types -/

/-- What the program says of a type, as the interpreter takes it. -/
def uOf (P : Program) : TypeDesc → Option U
  | .int k => some (.int k)
  | .bool => some .bool
  | .string => some .str
  | .slice e => some (.slice e)
  | .array n e => some (.array n e)
  | .struct fs => if fs.toList.all (fun f => (P.info? f.type).any fun i => !(i.size == 0)) then some (.struct (fs.toList.map fun f => (f.offset, f.type))) else none
  | .pointer e => some (.ptr e)
  | .map k e => some (.map k e)
  | .func _ _ _ => some .func
  | .interface _ => some .iface
  | _ => some .other

/-- An aggregate's zero value is a row of cells, another's is one cell. -/
def zeroFits (d : TypeDesc) (z : Value) : Bool :=
  match d, z with
  | .struct _, .agg _ | .array _ _, .agg _ => true
  | .struct _, _ | .array _ _, _ | _, .agg _ => false
  | _, _ => true

/-- No field is nameless. -/
def namesOk : TypeDesc → Bool
  | .struct fs => fs.toList.all fun f => f.name != "_"
  | _ => true

noncomputable def tyOf (P : Program) (t : TypeId) (cmp : Bool) : Option Ty :=
  bnd (P.info? t) fun i => bnd (P.underlying t) fun d => bnd i.zero fun z => bnd (mapOpt ofCell z.cells.toList) fun zs => bnd (uOf P d) fun u =>
    chk (zeroFits d z) (chk (Nat.beq (lenN zs) i.size) (chk (Bool.casesOn cmp true (!P.stoodInHeld t && !P.eqGuardType P.depth t && namesOk d)) (some ⟨u, i.size, i.bytes, cmp, zs⟩)))

/-! ### Regions -/

abbrev CallF := FuncId → List T → H → Option (T × H)

/-- Is the operation wanted, by its guard? -/
noncomputable def wantT (ops : Array Oper) (mask : Nat) (e : Env) (g : Option (Nat × Bool)) : Option Bool :=
  Option.casesOn g (some true) fun p => two p fun j want => bnd (bnd (bnd (nthD ops.toList j) fun o => o.dst) fun d => e.get mask d) fun v =>
    match v with
    | .bool b => some (Bool.casesOn b (Bool.casesOn want true false) want)
    | _ => some false

noncomputable def stepOp (cx : Ctx) (call : CallF) (mask : Nat) (ops : Array Oper) (e : Env) (h : H) (o : Oper) : Option (Env × H) :=
  bnd (wantT ops mask e o.guard) fun want => Bool.casesOn want
    (bnd (e.dst mask o.dst .undef) fun e' => some (e', h))
    (bnd (opH o.op cx mask e h) fun d => Did.casesOn d
      (fun v h' => bnd (e.dst mask o.dst v) fun e' => some (e', h'))
      (fun f args => bnd (call f args h) fun r => two r fun v h' => bnd (e.dst mask o.dst v) fun e' => some (e', h')))

noncomputable def runOps (cx : Ctx) (call : CallF) (mask : Nat) (ops : Array Oper) (l : List Oper) : Env → H → Option (Env × H) :=
  @List.rec Oper (fun _ => Env → H → Option (Env × H)) (fun e h => some (e, h))
    (fun o _ ih e h => bnd (stepOp cx call mask ops e h o) fun p => two p fun e' h' => ih e' h') l

/-! a region that draws its order: what was looked at, what was changed -/

def boxOf : T → Option Nat
  | .ptr b _ _ _ => some b
  | .arr b _ _ _ _ => some b
  | .map b => some b
  | _ => none

/-- Which box an operation looks into, or makes. -/
noncomputable def looksBox (cx : Ctx) (mask : Nat) (e : Env) (h : H) (o : Op) : Option Nat :=
  match o with
  | .load _ x => bnd (opnd cx mask e x) boxOf
  | .indexAddr _ x _ => bnd (opnd cx mask e x) boxOf
  | .slice _ x _ _ _ => bnd (opnd cx mask e x) boxOf
  | .convert _ _ x => bnd (opnd cx mask e x) boxOf
  | .lookup _ x _ _ => bnd (opnd cx mask e x) boxOf
  | .makeMap _ _ => some h.size
  | .alloc _ => some h.size
  | .box _ _ => some h.size
  | .buildSlice _ _ _ => some h.size
  | .makeSlice _ _ _ => some h.size
  | _ => none

def isEff : Op → Bool
  | .store .. => true
  | .call c => (match c.callee with
    | .builtin b => (match b with | .len | .min | .max => false | _ => true)
    | _ => true)
  | .next .. => true
  | .range .. => true
  | .entry .. => true
  | .mapUpdate .. => true
  | _ => false

structure Seen where
  loads : List (Nat × Nat)          -- (operation, box)
  effs : List (Nat × H × H)         -- (operation, heap before, heap behind)

/-- What comes ahead of an operation, by the edges that bind at every order; 'acc': the same of the operations ahead of it. -/
def befMask (acc : List Nat) (l : List Edge) : Nat :=
  l.foldr (fun e m => Bool.casesOn (Region.binds .any e) m (Nat.lor m (Nat.lor (Nat.shiftLeft 1 e.on) (acc.getD e.on 0)))) 0

def befs : List Oper → List Nat → List Nat
  | [], acc => acc
  | o :: l, acc => befs l (acc ++ [befMask acc o.after.toList])

/-- Operation i comes ahead of operation j, by the edges that bind at every order. -/
def ordered (ops : Array Oper) (i j : Nat) : Bool := ((befs ops.toList []).getD j 0).testBit i

noncomputable def sameVer (h h' : H) (b : Nat) : Bool :=
  Option.casesOn (h.get b) true fun x => Option.casesOn (h'.get b) false fun y => Nat.beq x.ver y.ver

/-- Look i at box b against the changes so far. -/
noncomputable def loadOk (ops : Array Oper) (i b : Nat) (l : List (Nat × H × H)) : Bool :=
  allB (fun p => Bool.casesOn (sameVer p.2.1 p.2.2 b) (ordered ops p.1 i) true) l

/-- Change j against the looks so far. -/
noncomputable def effOk (ops : Array Oper) (j : Nat) (h h' : H) (l : List (Nat × Nat)) : Bool :=
  allB (fun p => Bool.casesOn (sameVer h h' p.2) (ordered ops p.1 j) true) l

/-- A store against the changes so far. -/
noncomputable def storeOk (cx : Ctx) (mask : Nat) (ops : Array Oper) (i : Nat) (e : Env) (l : List (Nat × H × H)) (o : Op) : Bool :=
  match o with
  | .store _ x _ => Option.casesOn (bnd (opnd cx mask e x) boxOf) true fun b => loadOk ops i b l
  | _ => true

noncomputable def runDraw (cx : Ctx) (call : CallF) (mask : Nat) (ops : Array Oper) (l : List Oper) : Nat → Seen → Env → H → Option (Env × H) :=
  @List.rec Oper (fun _ => Nat → Seen → Env → H → Option (Env × H)) (fun _ _ e h => some (e, h))
    (fun o _ ih i s e h => bnd (stepOp cx call mask ops e h o) fun p => two p fun e' h' =>
      bnd (wantT ops mask e o.guard) fun want => Bool.casesOn want (ih (Nat.succ i) s e' h')
        (Bool.casesOn (isEff o.op)
          (Option.casesOn (looksBox cx mask e h o.op) (ih (Nat.succ i) s e' h')
            fun b => chk (loadOk ops i b s.effs) (ih (Nat.succ i) ⟨(i, b) :: s.loads, s.effs⟩ e' h'))
          (chk (effOk ops i h h' s.loads) (chk (storeOk cx mask ops i e s.effs o.op) (ih (Nat.succ i) ⟨s.loads, (i, h, h') :: s.effs⟩ e' h'))))) l

/-! ### Code -/

inductive Ex where
  | normal | exit (id : Nat) | ret
  deriving Inhabited

abbrev Out := Option (Ex × Env × H)

def three {γ : Type} (p : Ex × Env × H) (f : Ex → Env → H → γ) : γ := Prod.casesOn p fun x q => Prod.casesOn q fun e h => f x e h

noncomputable def loopT (body : Env → H → Out) (n : Nat) : Env → H → Out :=
  @Nat.rec (fun _ => Env → H → Out) (fun _ _ => none)
    (fun _ ih e h => bnd (body e h) fun r => three r fun x e' h' => Ex.casesOn x (ih e' h') (fun i => some (.exit i, e', h')) (some (.ret, e', h'))) n

noncomputable def regionT (cx : Ctx) (call : CallF) (mask : Nat) (ops : Array Oper) (draw : Bool) (e : Env) (h : H) : Out :=
  Env.casesOn e fun vars _ => Bool.casesOn draw
    (bnd (runOps cx call mask ops ops.toList ⟨vars, .nil⟩ h) fun r => two r fun e' h' => some (.normal, Env.casesOn e' fun vs _ => ⟨vs, .nil⟩, h'))
    (bnd (runDraw cx call mask ops ops.toList 0 ⟨[], []⟩ ⟨vars, .nil⟩ h) fun r => two r fun e' h' => some (.normal, Env.casesOn e' fun vs _ => ⟨vs, .nil⟩, h'))

noncomputable def seqT (a b : Env → H → Out) (e : Env) (h : H) : Out :=
  bnd (a e h) fun r => three r fun x e' h' => Ex.casesOn x (b e' h') (fun i => some (.exit i, e', h')) (some (.ret, e', h'))

noncomputable def condT (cx : Ctx) (mask : Nat) (c : Operand) (a b : Env → H → Out) (e : Env) (h : H) : Out :=
  bnd (opnd cx mask e c) fun v => match v with
    | .bool t => Bool.casesOn t (b e h) (a e h)
    | _ => none

noncomputable def blockT (id : Nat) (a : Env → H → Out) (e : Env) (h : H) : Out :=
  bnd (a e h) fun r => three r fun x e' h' => Ex.casesOn x (some (.normal, e', h')) (fun i => Bool.casesOn (Nat.beq i id) (some (.exit i, e', h')) (some (.normal, e', h'))) (some (.ret, e', h'))

noncomputable def codeT (cx : Ctx) (call : CallF) (fuel mask : Nat) : Code → Env → H → Out
  | .skip => fun e h => some (.normal, e, h)
  | .region _ ops draw => regionT cx call mask ops draw
  | .seq a b => seqT (codeT cx call fuel mask a) (codeT cx call fuel mask b)
  | .cond c a b => condT cx mask c (codeT cx call fuel mask a) (codeT cx call fuel mask b)
  | .block id b => blockT id (codeT cx call fuel mask b)
  | .loop b => loopT (codeT cx call fuel mask b) fuel
  | .exit id => fun e h => some (.exit id, e, h)
  | .ret => fun e h => some (.ret, e, h)
  | _ => fun _ _ => none

/-! ### Calls -/

noncomputable def initVars (mask : Nat) (n : Nat) : Nat → List T → Option Vars :=
  @Nat.rec (fun _ => Nat → List T → Option Vars) (fun _ _ => some .nil)
    (fun _ ih i args => bnd (normNat (Nat.succ i)) fun i' => List.casesOn args
      (Bool.casesOn (lasts mask i) (ih i' []) (bnd (ih i' []) fun t => some (.cons i .undef t)))
      fun a r => bnd (ih i' r) fun t => some (.cons i a t)) n

noncomputable def resultsT (cx : Ctx) (mask : Nat) (e : Env) (h : H) (l : List ResultVar) : Option (List T) :=
  mapOpt (fun r => ResultVar.casesOn r (fun t => e.get mask t) (fun a t => bnd (e.get mask a) fun p => bnd (cx.ty t) fun ty => h.load ty p)) l

noncomputable def findByte (c : Nat) (s : List Nat) : Nat → Option Int :=
  @List.rec Nat (fun _ => Nat → Option Int) (fun _ => some (.negSucc 0))
    (fun x _ ih i => Bool.casesOn (Nat.beq x c) (bnd (normNat (Nat.succ i)) fun i' => ih i') (some (.ofNat i))) s

noncomputable def primT (p : Prim) (args : List T) (h : H) : Option (T × H) :=
  match p with
  | .indexByteString => (match args with
    | [.str s, .int .u8 (.ofNat c)] => chk (Nat.blt c 256) (bnd (findByte c s 0) fun n => some (.int .i64 n, h))
    | _ => none)
  | .clone sz bytes => (match args with
    | [x] => bnd (h.items x) fun es => List.casesOn es (some (.tree [] false, h)) fun _ _ => h.appendNew sz bytes [] es
    | _ => none)

def oneOrTuple (vs : List T) : T := match vs with | [v] => v | _ => .tuple vs

noncomputable def bodyT (cx : Ctx) (call : CallF) (fuel : Nat) (fn : Func) (mask : Nat) (keep : Bool) (args : List T) (h : H) : Option (T × H) :=
  Option.casesOn fn.body none fun body => H.casesOn h fun size low boxes =>
    bnd (initVars mask fn.ntmps 0 args) fun vars =>
    bnd (codeT cx call fuel mask body ⟨vars, .nil⟩ ⟨size, size, boxes⟩) fun r => three r fun x e' h' => Ex.casesOn x
      (bnd (resultsT cx mask e' h' fn.results.toList) fun vs => leave keep size low (oneOrTuple vs) h')
      (fun _ => none)
      (bnd (resultsT cx mask e' h' fn.results.toList) fun vs => leave keep size low (oneOrTuple vs) h')

noncomputable def callT (cx : Ctx) (n : Nat) : CallF :=
  @Nat.rec (fun _ => CallF) (fun _ _ _ => none)
    (fun n ih f args h => bnd (cx.fn f) fun fn => Fun.casesOn fn fun fn mask keep prim =>
      Option.casesOn prim (bodyT cx ih n fn mask keep args h) fun p => primT p args h) n

end Go.TI
