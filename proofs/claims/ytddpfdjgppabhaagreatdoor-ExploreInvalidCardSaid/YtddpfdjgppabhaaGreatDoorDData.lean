/- Go's structs as Lean's. By program (mkdata.py). -/
import Derived.Test.YtddpfdjgppabhaaGreatDoorTiJ7
set_option linter.unusedSimpArgs false
set_option linter.unusedVariables false
namespace Go.Proofs.YtddpfdjgppabhaaGreatDoor
open Go Go.TI
set_option linter.unusedVariables false
set_option linter.unusedSimpArgs false
structure NCell where
  name : List Nat
  index : Int
  size : Int
  volatile : Bool
  ini : Int
  deriving DecidableEq, Inhabited
def NCell.cs (x : NCell) : List T := [.str x.name, .int .i64 x.index, .int .i64 x.size, .bool x.volatile, .int .i64 x.ini]
def NCell.t (x : NCell) : T := .agg x.cs
section
variable (x : NCell) (h : H) (d : Nat)
@[simp] theorem NCell.cells_t : x.t.cells = [.str x.name, .int .i64 x.index, .int .i64 x.size, .bool x.volatile, .int .i64 x.ini] := id rfl
@[simp] theorem NCell.csz_t : csz x.t = 5 := id rfl
@[simp] theorem NCell.setIn_t (j : Nat) (vs : List T) : setIn x.t j vs = bnd (splice [.str x.name, .int .i64 x.index, .int .i64 x.size, .bool x.volatile, .int .i64 x.ini] j vs) fun r => some (.agg r) := id rfl
@[simp] theorem NCell.good_t : x.t.good = true := id rfl
@[simp] theorem NCell.cn_t : cn x.t = x.t := by unfold NCell.t NCell.cs; simp [cn_agg]
@[simp] theorem NCell.fzV_t : fzV h x.t = some x.t := by unfold NCell.t NCell.cs; simp
@[simp] theorem NCell.fzD_t : fzD h (d + 2) x.t = some x.t := by unfold NCell.t NCell.cs; simp
@[simp] theorem NCell.shut_t : shutB x.t = true := by unfold NCell.t NCell.cs; simp
@[simp] theorem NCell.low_t : lowB x.t = true := by unfold NCell.t NCell.cs; simp
@[simp] theorem NCell.plain_t : plainB x.t = true := by unfold NCell.t NCell.cs; simp
@[simp] theorem NCell.fold (a0 : List Nat) (a1 : Int) (a2 : Int) (a3 : Bool) (a4 : Int) : T.agg [.str a0, .int .i64 a1, .int .i64 a2, .bool a3, .int .i64 a4] = NCell.t ⟨a0, a1, a2, a3, a4⟩ := rfl
@[simp] theorem NCell.eta : NCell.mk x.name x.index x.size x.volatile x.ini = x := rfl
end
theorem NCell.inj {x y : NCell} (h : x.t = y.t) : x = y := by
  simp only [NCell.t, NCell.cs, T.agg.injEq, List.cons.injEq, T.int.injEq, T.bool.injEq, T.str.injEq, true_and, and_true] at h
  obtain ⟨h0, h1, h2, h3, h4⟩ := h
  obtain ⟨p0, p1, p2, p3, p4⟩ := x
  obtain ⟨q0, q1, q2, q3, q4⟩ := y
  simp only at h0 h1 h2 h3 h4
  subst h0 h1 h2 h3 h4
  rfl
structure NLock where
  name : List Nat
  rW : Bool
  deriving DecidableEq, Inhabited
def NLock.cs (x : NLock) : List T := [.str x.name, .bool x.rW]
def NLock.t (x : NLock) : T := .agg x.cs
section
variable (x : NLock) (h : H) (d : Nat)
@[simp] theorem NLock.cells_t : x.t.cells = [.str x.name, .bool x.rW] := id rfl
@[simp] theorem NLock.csz_t : csz x.t = 2 := id rfl
@[simp] theorem NLock.setIn_t (j : Nat) (vs : List T) : setIn x.t j vs = bnd (splice [.str x.name, .bool x.rW] j vs) fun r => some (.agg r) := id rfl
@[simp] theorem NLock.good_t : x.t.good = true := id rfl
@[simp] theorem NLock.cn_t : cn x.t = x.t := by unfold NLock.t NLock.cs; simp [cn_agg]
@[simp] theorem NLock.fzV_t : fzV h x.t = some x.t := by unfold NLock.t NLock.cs; simp
@[simp] theorem NLock.fzD_t : fzD h (d + 2) x.t = some x.t := by unfold NLock.t NLock.cs; simp
@[simp] theorem NLock.shut_t : shutB x.t = true := by unfold NLock.t NLock.cs; simp
@[simp] theorem NLock.low_t : lowB x.t = true := by unfold NLock.t NLock.cs; simp
@[simp] theorem NLock.plain_t : plainB x.t = true := by unfold NLock.t NLock.cs; simp
@[simp] theorem NLock.fold (a0 : List Nat) (a1 : Bool) : T.agg [.str a0, .bool a1] = NLock.t ⟨a0, a1⟩ := rfl
@[simp] theorem NLock.eta : NLock.mk x.name x.rW = x := rfl
end
theorem NLock.inj {x y : NLock} (h : x.t = y.t) : x = y := by
  simp only [NLock.t, NLock.cs, T.agg.injEq, List.cons.injEq, T.int.injEq, T.bool.injEq, T.str.injEq, true_and, and_true] at h
  obtain ⟨h0, h1⟩ := h
  obtain ⟨p0, p1⟩ := x
  obtain ⟨q0, q1⟩ := y
  simp only at h0 h1
  subst h0 h1
  rfl
structure NCond where
  name : List Nat
  mutex : Int
  deriving DecidableEq, Inhabited
def NCond.cs (x : NCond) : List T := [.str x.name, .int .i64 x.mutex]
def NCond.t (x : NCond) : T := .agg x.cs
section
variable (x : NCond) (h : H) (d : Nat)
@[simp] theorem NCond.cells_t : x.t.cells = [.str x.name, .int .i64 x.mutex] := id rfl
@[simp] theorem NCond.csz_t : csz x.t = 2 := id rfl
@[simp] theorem NCond.setIn_t (j : Nat) (vs : List T) : setIn x.t j vs = bnd (splice [.str x.name, .int .i64 x.mutex] j vs) fun r => some (.agg r) := id rfl
@[simp] theorem NCond.good_t : x.t.good = true := id rfl
@[simp] theorem NCond.cn_t : cn x.t = x.t := by unfold NCond.t NCond.cs; simp [cn_agg]
@[simp] theorem NCond.fzV_t : fzV h x.t = some x.t := by unfold NCond.t NCond.cs; simp
@[simp] theorem NCond.fzD_t : fzD h (d + 2) x.t = some x.t := by unfold NCond.t NCond.cs; simp
@[simp] theorem NCond.shut_t : shutB x.t = true := by unfold NCond.t NCond.cs; simp
@[simp] theorem NCond.low_t : lowB x.t = true := by unfold NCond.t NCond.cs; simp
@[simp] theorem NCond.plain_t : plainB x.t = true := by unfold NCond.t NCond.cs; simp
@[simp] theorem NCond.fold (a0 : List Nat) (a1 : Int) : T.agg [.str a0, .int .i64 a1] = NCond.t ⟨a0, a1⟩ := rfl
@[simp] theorem NCond.eta : NCond.mk x.name x.mutex = x := rfl
end
theorem NCond.inj {x y : NCond} (h : x.t = y.t) : x = y := by
  simp only [NCond.t, NCond.cs, T.agg.injEq, List.cons.injEq, T.int.injEq, T.bool.injEq, T.str.injEq, true_and, and_true] at h
  obtain ⟨h0, h1⟩ := h
  obtain ⟨p0, p1⟩ := x
  obtain ⟨q0, q1⟩ := y
  simp only at h0 h1
  subst h0 h1
  rfl
structure NSite where
  thread : Int
  stmt : Int
  line : Int
  deriving DecidableEq, Inhabited
def NSite.cs (x : NSite) : List T := [.int .i64 x.thread, .int .i64 x.stmt, .int .i64 x.line]
def NSite.t (x : NSite) : T := .agg x.cs
section
variable (x : NSite) (h : H) (d : Nat)
@[simp] theorem NSite.cells_t : x.t.cells = [.int .i64 x.thread, .int .i64 x.stmt, .int .i64 x.line] := id rfl
@[simp] theorem NSite.csz_t : csz x.t = 3 := id rfl
@[simp] theorem NSite.setIn_t (j : Nat) (vs : List T) : setIn x.t j vs = bnd (splice [.int .i64 x.thread, .int .i64 x.stmt, .int .i64 x.line] j vs) fun r => some (.agg r) := id rfl
@[simp] theorem NSite.good_t : x.t.good = true := id rfl
@[simp] theorem NSite.cn_t : cn x.t = x.t := by unfold NSite.t NSite.cs; simp [cn_agg]
@[simp] theorem NSite.fzV_t : fzV h x.t = some x.t := by unfold NSite.t NSite.cs; simp
@[simp] theorem NSite.fzD_t : fzD h (d + 2) x.t = some x.t := by unfold NSite.t NSite.cs; simp
@[simp] theorem NSite.shut_t : shutB x.t = true := by unfold NSite.t NSite.cs; simp
@[simp] theorem NSite.low_t : lowB x.t = true := by unfold NSite.t NSite.cs; simp
@[simp] theorem NSite.plain_t : plainB x.t = true := by unfold NSite.t NSite.cs; simp
@[simp] theorem NSite.fold (a0 : Int) (a1 : Int) (a2 : Int) : T.agg [.int .i64 a0, .int .i64 a1, .int .i64 a2] = NSite.t ⟨a0, a1, a2⟩ := rfl
@[simp] theorem NSite.eta : NSite.mk x.thread x.stmt x.line = x := rfl
end
theorem NSite.inj {x y : NSite} (h : x.t = y.t) : x = y := by
  simp only [NSite.t, NSite.cs, T.agg.injEq, List.cons.injEq, T.int.injEq, T.bool.injEq, T.str.injEq, true_and, and_true] at h
  obtain ⟨h0, h1, h2⟩ := h
  obtain ⟨p0, p1, p2⟩ := x
  obtain ⟨q0, q1, q2⟩ := y
  simp only at h0 h1 h2
  subst h0 h1 h2
  rfl
structure NWorld where
  cells : List NCell
  locks : List NLock
  conds : List NCond
  futures : List (List Nat)
  threads : List (List Nat)
  sites : List NSite
  deriving DecidableEq, Inhabited
def NWorld.cs (x : NWorld) : List T := [sl (x.cells.map NCell.t), sl (x.locks.map NLock.t), sl (x.conds.map NCond.t), sl (x.futures.map T.str), sl (x.threads.map T.str), sl (x.sites.map NSite.t)]
def NWorld.t (x : NWorld) : T := .agg x.cs
section
variable (x : NWorld) (h : H) (d : Nat)
@[simp] theorem NWorld.cells_t : x.t.cells = [sl (x.cells.map NCell.t), sl (x.locks.map NLock.t), sl (x.conds.map NCond.t), sl (x.futures.map T.str), sl (x.threads.map T.str), sl (x.sites.map NSite.t)] := id rfl
@[simp] theorem NWorld.csz_t : csz x.t = 6 := id rfl
@[simp] theorem NWorld.setIn_t (j : Nat) (vs : List T) : setIn x.t j vs = bnd (splice [sl (x.cells.map NCell.t), sl (x.locks.map NLock.t), sl (x.conds.map NCond.t), sl (x.futures.map T.str), sl (x.threads.map T.str), sl (x.sites.map NSite.t)] j vs) fun r => some (.agg r) := id rfl
@[simp] theorem NWorld.good_t : x.t.good = true := id rfl
@[simp] theorem NWorld.cn_t : cn x.t = x.t := by unfold NWorld.t NWorld.cs; simp [cn_agg]
@[simp] theorem NWorld.fzV_t : fzV h x.t = some x.t := by unfold NWorld.t NWorld.cs; simp
@[simp] theorem NWorld.fzD_t : fzD h (d + 2) x.t = some x.t := by unfold NWorld.t NWorld.cs; simp
@[simp] theorem NWorld.shut_t : shutB x.t = true := by unfold NWorld.t NWorld.cs; simp
@[simp] theorem NWorld.low_t : lowB x.t = true := by unfold NWorld.t NWorld.cs; simp
@[simp] theorem NWorld.fold (a0 : List NCell) (a1 : List NLock) (a2 : List NCond) (a3 : List (List Nat)) (a4 : List (List Nat)) (a5 : List NSite) : T.agg [sl (a0.map NCell.t), sl (a1.map NLock.t), sl (a2.map NCond.t), sl (a3.map T.str), sl (a4.map T.str), sl (a5.map NSite.t)] = NWorld.t ⟨a0, a1, a2, a3, a4, a5⟩ := rfl
@[simp] theorem NWorld.eta : NWorld.mk x.cells x.locks x.conds x.futures x.threads x.sites = x := rfl
end
theorem NWorld.inj {x y : NWorld} (h : x.t = y.t) : x = y := by
  simp only [NWorld.t, NWorld.cs, T.agg.injEq, List.cons.injEq, T.int.injEq, T.bool.injEq, T.str.injEq, true_and, and_true] at h
  obtain ⟨h0, h1, h2, h3, h4, h5⟩ := h
  replace h0 := slm_inj (fun a b h => NCell.inj h) h0
  replace h1 := slm_inj (fun a b h => NLock.inj h) h1
  replace h2 := slm_inj (fun a b h => NCond.inj h) h2
  replace h3 := slm_inj (fun a b h => by simpa using h) h3
  replace h4 := slm_inj (fun a b h => by simpa using h) h4
  replace h5 := slm_inj (fun a b h => NSite.inj h) h5
  obtain ⟨p0, p1, p2, p3, p4, p5⟩ := x
  obtain ⟨q0, q1, q2, q3, q4, q5⟩ := y
  simp only at h0 h1 h2 h3 h4 h5
  subst h0 h1 h2 h3 h4 h5
  rfl
structure NLockState where
  owner : Int
  readers : List Int
  deriving DecidableEq, Inhabited
def NLockState.cs (x : NLockState) : List T := [.int .i64 x.owner, sl (x.readers.map (T.int .i64))]
def NLockState.t (x : NLockState) : T := .agg x.cs
section
variable (x : NLockState) (h : H) (d : Nat)
@[simp] theorem NLockState.cells_t : x.t.cells = [.int .i64 x.owner, sl (x.readers.map (T.int .i64))] := id rfl
@[simp] theorem NLockState.csz_t : csz x.t = 2 := id rfl
@[simp] theorem NLockState.setIn_t (j : Nat) (vs : List T) : setIn x.t j vs = bnd (splice [.int .i64 x.owner, sl (x.readers.map (T.int .i64))] j vs) fun r => some (.agg r) := id rfl
@[simp] theorem NLockState.good_t : x.t.good = true := id rfl
@[simp] theorem NLockState.cn_t : cn x.t = x.t := by unfold NLockState.t NLockState.cs; simp [cn_agg]
@[simp] theorem NLockState.fzV_t : fzV h x.t = some x.t := by unfold NLockState.t NLockState.cs; simp
@[simp] theorem NLockState.fzD_t : fzD h (d + 2) x.t = some x.t := by unfold NLockState.t NLockState.cs; simp
@[simp] theorem NLockState.shut_t : shutB x.t = true := by unfold NLockState.t NLockState.cs; simp
@[simp] theorem NLockState.low_t : lowB x.t = true := by unfold NLockState.t NLockState.cs; simp
@[simp] theorem NLockState.fold (a0 : Int) (a1 : List Int) : T.agg [.int .i64 a0, sl (a1.map (T.int .i64))] = NLockState.t ⟨a0, a1⟩ := rfl
@[simp] theorem NLockState.eta : NLockState.mk x.owner x.readers = x := rfl
end
theorem NLockState.inj {x y : NLockState} (h : x.t = y.t) : x = y := by
  simp only [NLockState.t, NLockState.cs, T.agg.injEq, List.cons.injEq, T.int.injEq, T.bool.injEq, T.str.injEq, true_and, and_true] at h
  obtain ⟨h0, h1⟩ := h
  replace h1 := slm_inj (fun a b h => by simpa using h) h1
  obtain ⟨p0, p1⟩ := x
  obtain ⟨q0, q1⟩ := y
  simp only at h0 h1
  subst h0 h1
  rfl
structure NThreadSync where
  status : Int
  cond : Int
  atomic : Bool
  deriving DecidableEq, Inhabited
def NThreadSync.cs (x : NThreadSync) : List T := [.int .i64 x.status, .int .i64 x.cond, .bool x.atomic]
def NThreadSync.t (x : NThreadSync) : T := .agg x.cs
section
variable (x : NThreadSync) (h : H) (d : Nat)
@[simp] theorem NThreadSync.cells_t : x.t.cells = [.int .i64 x.status, .int .i64 x.cond, .bool x.atomic] := id rfl
@[simp] theorem NThreadSync.csz_t : csz x.t = 3 := id rfl
@[simp] theorem NThreadSync.setIn_t (j : Nat) (vs : List T) : setIn x.t j vs = bnd (splice [.int .i64 x.status, .int .i64 x.cond, .bool x.atomic] j vs) fun r => some (.agg r) := id rfl
@[simp] theorem NThreadSync.good_t : x.t.good = true := id rfl
@[simp] theorem NThreadSync.cn_t : cn x.t = x.t := by unfold NThreadSync.t NThreadSync.cs; simp [cn_agg]
@[simp] theorem NThreadSync.fzV_t : fzV h x.t = some x.t := by unfold NThreadSync.t NThreadSync.cs; simp
@[simp] theorem NThreadSync.fzD_t : fzD h (d + 2) x.t = some x.t := by unfold NThreadSync.t NThreadSync.cs; simp
@[simp] theorem NThreadSync.shut_t : shutB x.t = true := by unfold NThreadSync.t NThreadSync.cs; simp
@[simp] theorem NThreadSync.low_t : lowB x.t = true := by unfold NThreadSync.t NThreadSync.cs; simp
@[simp] theorem NThreadSync.plain_t : plainB x.t = true := by unfold NThreadSync.t NThreadSync.cs; simp
@[simp] theorem NThreadSync.fold (a0 : Int) (a1 : Int) (a2 : Bool) : T.agg [.int .i64 a0, .int .i64 a1, .bool a2] = NThreadSync.t ⟨a0, a1, a2⟩ := rfl
@[simp] theorem NThreadSync.eta : NThreadSync.mk x.status x.cond x.atomic = x := rfl
end
theorem NThreadSync.inj {x y : NThreadSync} (h : x.t = y.t) : x = y := by
  simp only [NThreadSync.t, NThreadSync.cs, T.agg.injEq, List.cons.injEq, T.int.injEq, T.bool.injEq, T.str.injEq, true_and, and_true] at h
  obtain ⟨h0, h1, h2⟩ := h
  obtain ⟨p0, p1, p2⟩ := x
  obtain ⟨q0, q1, q2⟩ := y
  simp only at h0 h1 h2
  subst h0 h1 h2
  rfl
structure NSync where
  locks : List NLockState
  tx : Int
  done : List Bool
  threads : List NThreadSync
  deriving DecidableEq, Inhabited
def NSync.cs (x : NSync) : List T := [sl (x.locks.map NLockState.t), .int .i64 x.tx, sl (x.done.map T.bool), sl (x.threads.map NThreadSync.t)]
def NSync.t (x : NSync) : T := .agg x.cs
section
variable (x : NSync) (h : H) (d : Nat)
@[simp] theorem NSync.cells_t : x.t.cells = [sl (x.locks.map NLockState.t), .int .i64 x.tx, sl (x.done.map T.bool), sl (x.threads.map NThreadSync.t)] := id rfl
@[simp] theorem NSync.csz_t : csz x.t = 4 := id rfl
@[simp] theorem NSync.setIn_t (j : Nat) (vs : List T) : setIn x.t j vs = bnd (splice [sl (x.locks.map NLockState.t), .int .i64 x.tx, sl (x.done.map T.bool), sl (x.threads.map NThreadSync.t)] j vs) fun r => some (.agg r) := id rfl
@[simp] theorem NSync.good_t : x.t.good = true := id rfl
@[simp] theorem NSync.cn_t : cn x.t = x.t := by unfold NSync.t NSync.cs; simp [cn_agg]
@[simp] theorem NSync.fzV_t : fzV h x.t = some x.t := by unfold NSync.t NSync.cs; simp
@[simp] theorem NSync.fzD_t : fzD h (d + 2) x.t = some x.t := by unfold NSync.t NSync.cs; simp
@[simp] theorem NSync.shut_t : shutB x.t = true := by unfold NSync.t NSync.cs; simp
@[simp] theorem NSync.low_t : lowB x.t = true := by unfold NSync.t NSync.cs; simp
@[simp] theorem NSync.fold (a0 : List NLockState) (a1 : Int) (a2 : List Bool) (a3 : List NThreadSync) : T.agg [sl (a0.map NLockState.t), .int .i64 a1, sl (a2.map T.bool), sl (a3.map NThreadSync.t)] = NSync.t ⟨a0, a1, a2, a3⟩ := rfl
@[simp] theorem NSync.eta : NSync.mk x.locks x.tx x.done x.threads = x := rfl
end
theorem NSync.inj {x y : NSync} (h : x.t = y.t) : x = y := by
  simp only [NSync.t, NSync.cs, T.agg.injEq, List.cons.injEq, T.int.injEq, T.bool.injEq, T.str.injEq, true_and, and_true] at h
  obtain ⟨h0, h1, h2, h3⟩ := h
  replace h0 := slm_inj (fun a b h => NLockState.inj h) h0
  replace h2 := slm_inj (fun a b h => by simpa using h) h2
  replace h3 := slm_inj (fun a b h => NThreadSync.inj h) h3
  obtain ⟨p0, p1, p2, p3⟩ := x
  obtain ⟨q0, q1, q2, q3⟩ := y
  simp only at h0 h1 h2 h3
  subst h0 h1 h2 h3
  rfl
structure NInstr where
  op : Int
  a : Int
  b : Int
  c : Int
  n : Int
  site : Int
  deriving DecidableEq, Inhabited
def NInstr.cs (x : NInstr) : List T := [.int .i64 x.op, .int .i64 x.a, .int .i64 x.b, .int .i64 x.c, .int .i64 x.n, .int .i64 x.site]
def NInstr.t (x : NInstr) : T := .agg x.cs
section
variable (x : NInstr) (h : H) (d : Nat)
@[simp] theorem NInstr.cells_t : x.t.cells = [.int .i64 x.op, .int .i64 x.a, .int .i64 x.b, .int .i64 x.c, .int .i64 x.n, .int .i64 x.site] := id rfl
@[simp] theorem NInstr.csz_t : csz x.t = 6 := id rfl
@[simp] theorem NInstr.setIn_t (j : Nat) (vs : List T) : setIn x.t j vs = bnd (splice [.int .i64 x.op, .int .i64 x.a, .int .i64 x.b, .int .i64 x.c, .int .i64 x.n, .int .i64 x.site] j vs) fun r => some (.agg r) := id rfl
@[simp] theorem NInstr.good_t : x.t.good = true := id rfl
@[simp] theorem NInstr.cn_t : cn x.t = x.t := by unfold NInstr.t NInstr.cs; simp [cn_agg]
@[simp] theorem NInstr.fzV_t : fzV h x.t = some x.t := by unfold NInstr.t NInstr.cs; simp
@[simp] theorem NInstr.fzD_t : fzD h (d + 2) x.t = some x.t := by unfold NInstr.t NInstr.cs; simp
@[simp] theorem NInstr.shut_t : shutB x.t = true := by unfold NInstr.t NInstr.cs; simp
@[simp] theorem NInstr.low_t : lowB x.t = true := by unfold NInstr.t NInstr.cs; simp
@[simp] theorem NInstr.plain_t : plainB x.t = true := by unfold NInstr.t NInstr.cs; simp
@[simp] theorem NInstr.fold (a0 : Int) (a1 : Int) (a2 : Int) (a3 : Int) (a4 : Int) (a5 : Int) : T.agg [.int .i64 a0, .int .i64 a1, .int .i64 a2, .int .i64 a3, .int .i64 a4, .int .i64 a5] = NInstr.t ⟨a0, a1, a2, a3, a4, a5⟩ := rfl
@[simp] theorem NInstr.eta : NInstr.mk x.op x.a x.b x.c x.n x.site = x := rfl
end
theorem NInstr.inj {x y : NInstr} (h : x.t = y.t) : x = y := by
  simp only [NInstr.t, NInstr.cs, T.agg.injEq, List.cons.injEq, T.int.injEq, T.bool.injEq, T.str.injEq, true_and, and_true] at h
  obtain ⟨h0, h1, h2, h3, h4, h5⟩ := h
  obtain ⟨p0, p1, p2, p3, p4, p5⟩ := x
  obtain ⟨q0, q1, q2, q3, q4, q5⟩ := y
  simp only at h0 h1 h2 h3 h4 h5
  subst h0 h1 h2 h3 h4 h5
  rfl
structure NThreadCode where
  regs : Int
  instrs : List NInstr
  deriving DecidableEq, Inhabited
def NThreadCode.cs (x : NThreadCode) : List T := [.int .i64 x.regs, sl (x.instrs.map NInstr.t)]
def NThreadCode.t (x : NThreadCode) : T := .agg x.cs
section
variable (x : NThreadCode) (h : H) (d : Nat)
@[simp] theorem NThreadCode.cells_t : x.t.cells = [.int .i64 x.regs, sl (x.instrs.map NInstr.t)] := id rfl
@[simp] theorem NThreadCode.csz_t : csz x.t = 2 := id rfl
@[simp] theorem NThreadCode.setIn_t (j : Nat) (vs : List T) : setIn x.t j vs = bnd (splice [.int .i64 x.regs, sl (x.instrs.map NInstr.t)] j vs) fun r => some (.agg r) := id rfl
@[simp] theorem NThreadCode.good_t : x.t.good = true := id rfl
@[simp] theorem NThreadCode.cn_t : cn x.t = x.t := by unfold NThreadCode.t NThreadCode.cs; simp [cn_agg]
@[simp] theorem NThreadCode.fzV_t : fzV h x.t = some x.t := by unfold NThreadCode.t NThreadCode.cs; simp
@[simp] theorem NThreadCode.fzD_t : fzD h (d + 2) x.t = some x.t := by unfold NThreadCode.t NThreadCode.cs; simp
@[simp] theorem NThreadCode.shut_t : shutB x.t = true := by unfold NThreadCode.t NThreadCode.cs; simp
@[simp] theorem NThreadCode.low_t : lowB x.t = true := by unfold NThreadCode.t NThreadCode.cs; simp
@[simp] theorem NThreadCode.fold (a0 : Int) (a1 : List NInstr) : T.agg [.int .i64 a0, sl (a1.map NInstr.t)] = NThreadCode.t ⟨a0, a1⟩ := rfl
@[simp] theorem NThreadCode.eta : NThreadCode.mk x.regs x.instrs = x := rfl
end
theorem NThreadCode.inj {x y : NThreadCode} (h : x.t = y.t) : x = y := by
  simp only [NThreadCode.t, NThreadCode.cs, T.agg.injEq, List.cons.injEq, T.int.injEq, T.bool.injEq, T.str.injEq, true_and, and_true] at h
  obtain ⟨h0, h1⟩ := h
  replace h1 := slm_inj (fun a b h => NInstr.inj h) h1
  obtain ⟨p0, p1⟩ := x
  obtain ⟨q0, q1⟩ := y
  simp only at h0 h1
  subst h0 h1
  rfl
structure NCode where
  world : NWorld
  threads : List NThreadCode
  deriving DecidableEq, Inhabited
def NCode.cs (x : NCode) : List T := [sl (x.world.cells.map NCell.t), sl (x.world.locks.map NLock.t), sl (x.world.conds.map NCond.t), sl (x.world.futures.map T.str), sl (x.world.threads.map T.str), sl (x.world.sites.map NSite.t), sl (x.threads.map NThreadCode.t)]
def NCode.t (x : NCode) : T := .agg x.cs
section
variable (x : NCode) (h : H) (d : Nat)
@[simp] theorem NCode.cells_t : x.t.cells = [sl (x.world.cells.map NCell.t), sl (x.world.locks.map NLock.t), sl (x.world.conds.map NCond.t), sl (x.world.futures.map T.str), sl (x.world.threads.map T.str), sl (x.world.sites.map NSite.t), sl (x.threads.map NThreadCode.t)] := id rfl
@[simp] theorem NCode.csz_t : csz x.t = 7 := id rfl
@[simp] theorem NCode.setIn_t (j : Nat) (vs : List T) : setIn x.t j vs = bnd (splice [sl (x.world.cells.map NCell.t), sl (x.world.locks.map NLock.t), sl (x.world.conds.map NCond.t), sl (x.world.futures.map T.str), sl (x.world.threads.map T.str), sl (x.world.sites.map NSite.t), sl (x.threads.map NThreadCode.t)] j vs) fun r => some (.agg r) := id rfl
@[simp] theorem NCode.good_t : x.t.good = true := id rfl
@[simp] theorem NCode.cn_t : cn x.t = x.t := by unfold NCode.t NCode.cs; simp [cn_agg]
@[simp] theorem NCode.fzV_t : fzV h x.t = some x.t := by unfold NCode.t NCode.cs; simp
@[simp] theorem NCode.fzD_t : fzD h (d + 2) x.t = some x.t := by unfold NCode.t NCode.cs; simp
@[simp] theorem NCode.shut_t : shutB x.t = true := by unfold NCode.t NCode.cs; simp
@[simp] theorem NCode.low_t : lowB x.t = true := by unfold NCode.t NCode.cs; simp
@[simp] theorem NCode.fold (a0 : List NCell) (a1 : List NLock) (a2 : List NCond) (a3 : List (List Nat)) (a4 : List (List Nat)) (a5 : List NSite) (a6 : List NThreadCode) : T.agg [sl (a0.map NCell.t), sl (a1.map NLock.t), sl (a2.map NCond.t), sl (a3.map T.str), sl (a4.map T.str), sl (a5.map NSite.t), sl (a6.map NThreadCode.t)] = NCode.t ⟨⟨a0, a1, a2, a3, a4, a5⟩, a6⟩ := rfl
@[simp] theorem NCode.eta : NCode.mk x.world x.threads = x := rfl
end
theorem NCode.inj {x y : NCode} (h : x.t = y.t) : x = y := by
  simp only [NCode.t, NCode.cs, T.agg.injEq, List.cons.injEq, T.int.injEq, T.bool.injEq, T.str.injEq, true_and, and_true] at h
  obtain ⟨h0, h1, h2, h3, h4, h5, h6⟩ := h
  replace h0 := slm_inj (fun a b h => NCell.inj h) h0
  replace h1 := slm_inj (fun a b h => NLock.inj h) h1
  replace h2 := slm_inj (fun a b h => NCond.inj h) h2
  replace h3 := slm_inj (fun a b h => by simpa using h) h3
  replace h4 := slm_inj (fun a b h => by simpa using h) h4
  replace h5 := slm_inj (fun a b h => NSite.inj h) h5
  replace h6 := slm_inj (fun a b h => NThreadCode.inj h) h6
  obtain ⟨⟨p0, p1, p2, p3, p4, p5⟩, p6⟩ := x
  obtain ⟨⟨q0, q1, q2, q3, q4, q5⟩, q6⟩ := y
  simp only at h0 h1 h2 h3 h4 h5 h6
  subst h0 h1 h2 h3 h4 h5 h6
  rfl
structure NThreadState where
  pC : Int
  regs : List Int
  taint : List (List Int)
  events : Int
  deriving DecidableEq, Inhabited
def NThreadState.cs (x : NThreadState) : List T := [.int .i64 x.pC, sl (x.regs.map (T.int .i64)), sl (x.taint.map (fun l => sl (l.map (T.int .i64)))), .int .i64 x.events]
def NThreadState.t (x : NThreadState) : T := .agg x.cs
section
variable (x : NThreadState) (h : H) (d : Nat)
@[simp] theorem NThreadState.cells_t : x.t.cells = [.int .i64 x.pC, sl (x.regs.map (T.int .i64)), sl (x.taint.map (fun l => sl (l.map (T.int .i64)))), .int .i64 x.events] := id rfl
@[simp] theorem NThreadState.csz_t : csz x.t = 4 := id rfl
@[simp] theorem NThreadState.setIn_t (j : Nat) (vs : List T) : setIn x.t j vs = bnd (splice [.int .i64 x.pC, sl (x.regs.map (T.int .i64)), sl (x.taint.map (fun l => sl (l.map (T.int .i64)))), .int .i64 x.events] j vs) fun r => some (.agg r) := id rfl
@[simp] theorem NThreadState.good_t : x.t.good = true := id rfl
@[simp] theorem NThreadState.cn_t : cn x.t = x.t := by unfold NThreadState.t NThreadState.cs; simp [cn_agg]
@[simp] theorem NThreadState.fzV_t : fzV h x.t = some x.t := by unfold NThreadState.t NThreadState.cs; simp
@[simp] theorem NThreadState.fzD_t : fzD h (d + 2) x.t = some x.t := by unfold NThreadState.t NThreadState.cs; simp
@[simp] theorem NThreadState.shut_t : shutB x.t = true := by unfold NThreadState.t NThreadState.cs; simp
@[simp] theorem NThreadState.low_t : lowB x.t = true := by unfold NThreadState.t NThreadState.cs; simp
@[simp] theorem NThreadState.fold (a0 : Int) (a1 : List Int) (a2 : List (List Int)) (a3 : Int) : T.agg [.int .i64 a0, sl (a1.map (T.int .i64)), sl (a2.map (fun l => sl (l.map (T.int .i64)))), .int .i64 a3] = NThreadState.t ⟨a0, a1, a2, a3⟩ := rfl
@[simp] theorem NThreadState.eta : NThreadState.mk x.pC x.regs x.taint x.events = x := rfl
end
theorem NThreadState.inj {x y : NThreadState} (h : x.t = y.t) : x = y := by
  simp only [NThreadState.t, NThreadState.cs, T.agg.injEq, List.cons.injEq, T.int.injEq, T.bool.injEq, T.str.injEq, true_and, and_true] at h
  obtain ⟨h0, h1, h2, h3⟩ := h
  replace h1 := slm_inj (fun a b h => by simpa using h) h1
  replace h2 := slm_inj (fun a b h => slm_inj (fun a b h => by simpa using h) h) h2
  obtain ⟨p0, p1, p2, p3⟩ := x
  obtain ⟨q0, q1, q2, q3⟩ := y
  simp only at h0 h1 h2 h3
  subst h0 h1 h2 h3
  rfl
structure NState where
  sync : NSync
  cells : List Int
  futures : List Int
  threads : List NThreadState
  deriving DecidableEq, Inhabited
def NState.cs (x : NState) : List T := [sl (x.sync.locks.map NLockState.t), .int .i64 x.sync.tx, sl (x.sync.done.map T.bool), sl (x.sync.threads.map NThreadSync.t), sl (x.cells.map (T.int .i64)), sl (x.futures.map (T.int .i64)), sl (x.threads.map NThreadState.t)]
def NState.t (x : NState) : T := .agg x.cs
section
variable (x : NState) (h : H) (d : Nat)
@[simp] theorem NState.cells_t : x.t.cells = [sl (x.sync.locks.map NLockState.t), .int .i64 x.sync.tx, sl (x.sync.done.map T.bool), sl (x.sync.threads.map NThreadSync.t), sl (x.cells.map (T.int .i64)), sl (x.futures.map (T.int .i64)), sl (x.threads.map NThreadState.t)] := id rfl
@[simp] theorem NState.csz_t : csz x.t = 7 := id rfl
@[simp] theorem NState.setIn_t (j : Nat) (vs : List T) : setIn x.t j vs = bnd (splice [sl (x.sync.locks.map NLockState.t), .int .i64 x.sync.tx, sl (x.sync.done.map T.bool), sl (x.sync.threads.map NThreadSync.t), sl (x.cells.map (T.int .i64)), sl (x.futures.map (T.int .i64)), sl (x.threads.map NThreadState.t)] j vs) fun r => some (.agg r) := id rfl
@[simp] theorem NState.good_t : x.t.good = true := id rfl
@[simp] theorem NState.cn_t : cn x.t = x.t := by unfold NState.t NState.cs; simp [cn_agg]
@[simp] theorem NState.fzV_t : fzV h x.t = some x.t := by unfold NState.t NState.cs; simp
@[simp] theorem NState.fzD_t : fzD h (d + 2) x.t = some x.t := by unfold NState.t NState.cs; simp
@[simp] theorem NState.shut_t : shutB x.t = true := by unfold NState.t NState.cs; simp
@[simp] theorem NState.low_t : lowB x.t = true := by unfold NState.t NState.cs; simp
@[simp] theorem NState.fold (a0 : List NLockState) (a1 : Int) (a2 : List Bool) (a3 : List NThreadSync) (a4 : List Int) (a5 : List Int) (a6 : List NThreadState) : T.agg [sl (a0.map NLockState.t), .int .i64 a1, sl (a2.map T.bool), sl (a3.map NThreadSync.t), sl (a4.map (T.int .i64)), sl (a5.map (T.int .i64)), sl (a6.map NThreadState.t)] = NState.t ⟨⟨a0, a1, a2, a3⟩, a4, a5, a6⟩ := rfl
@[simp] theorem NState.eta : NState.mk x.sync x.cells x.futures x.threads = x := rfl
end
theorem NState.inj {x y : NState} (h : x.t = y.t) : x = y := by
  simp only [NState.t, NState.cs, T.agg.injEq, List.cons.injEq, T.int.injEq, T.bool.injEq, T.str.injEq, true_and, and_true] at h
  obtain ⟨h0, h1, h2, h3, h4, h5, h6⟩ := h
  replace h0 := slm_inj (fun a b h => NLockState.inj h) h0
  replace h2 := slm_inj (fun a b h => by simpa using h) h2
  replace h3 := slm_inj (fun a b h => NThreadSync.inj h) h3
  replace h4 := slm_inj (fun a b h => by simpa using h) h4
  replace h5 := slm_inj (fun a b h => by simpa using h) h5
  replace h6 := slm_inj (fun a b h => NThreadState.inj h) h6
  obtain ⟨⟨p0, p1, p2, p3⟩, p4, p5, p6⟩ := x
  obtain ⟨⟨q0, q1, q2, q3⟩, q4, q5, q6⟩ := y
  simp only at h0 h1 h2 h3 h4 h5 h6
  subst h0 h1 h2 h3 h4 h5 h6
  rfl
structure NChoice where
  thread : Int
  wake : Int
  deriving DecidableEq, Inhabited
def NChoice.cs (x : NChoice) : List T := [.int .i64 x.thread, .int .i64 x.wake]
def NChoice.t (x : NChoice) : T := .agg x.cs
section
variable (x : NChoice) (h : H) (d : Nat)
@[simp] theorem NChoice.cells_t : x.t.cells = [.int .i64 x.thread, .int .i64 x.wake] := id rfl
@[simp] theorem NChoice.csz_t : csz x.t = 2 := id rfl
@[simp] theorem NChoice.setIn_t (j : Nat) (vs : List T) : setIn x.t j vs = bnd (splice [.int .i64 x.thread, .int .i64 x.wake] j vs) fun r => some (.agg r) := id rfl
@[simp] theorem NChoice.good_t : x.t.good = true := id rfl
@[simp] theorem NChoice.cn_t : cn x.t = x.t := by unfold NChoice.t NChoice.cs; simp [cn_agg]
@[simp] theorem NChoice.fzV_t : fzV h x.t = some x.t := by unfold NChoice.t NChoice.cs; simp
@[simp] theorem NChoice.fzD_t : fzD h (d + 2) x.t = some x.t := by unfold NChoice.t NChoice.cs; simp
@[simp] theorem NChoice.shut_t : shutB x.t = true := by unfold NChoice.t NChoice.cs; simp
@[simp] theorem NChoice.low_t : lowB x.t = true := by unfold NChoice.t NChoice.cs; simp
@[simp] theorem NChoice.plain_t : plainB x.t = true := by unfold NChoice.t NChoice.cs; simp
@[simp] theorem NChoice.fold (a0 : Int) (a1 : Int) : T.agg [.int .i64 a0, .int .i64 a1] = NChoice.t ⟨a0, a1⟩ := rfl
@[simp] theorem NChoice.eta : NChoice.mk x.thread x.wake = x := rfl
end
theorem NChoice.inj {x y : NChoice} (h : x.t = y.t) : x = y := by
  simp only [NChoice.t, NChoice.cs, T.agg.injEq, List.cons.injEq, T.int.injEq, T.bool.injEq, T.str.injEq, true_and, and_true] at h
  obtain ⟨h0, h1⟩ := h
  obtain ⟨p0, p1⟩ := x
  obtain ⟨q0, q1⟩ := y
  simp only at h0 h1
  subst h0 h1
  rfl
structure NEvent where
  thread : Int
  kind : Int
  obj : Int
  value : Int
  site : Int
  deps : List Int
  frm : List Int
  deriving DecidableEq, Inhabited
def NEvent.cs (x : NEvent) : List T := [.int .i64 x.thread, .int .i64 x.kind, .int .i64 x.obj, .int .i64 x.value, .int .i64 x.site, sl (x.deps.map (T.int .i64)), sl (x.frm.map (T.int .i64))]
def NEvent.t (x : NEvent) : T := .agg x.cs
section
variable (x : NEvent) (h : H) (d : Nat)
@[simp] theorem NEvent.cells_t : x.t.cells = [.int .i64 x.thread, .int .i64 x.kind, .int .i64 x.obj, .int .i64 x.value, .int .i64 x.site, sl (x.deps.map (T.int .i64)), sl (x.frm.map (T.int .i64))] := id rfl
@[simp] theorem NEvent.csz_t : csz x.t = 7 := id rfl
@[simp] theorem NEvent.setIn_t (j : Nat) (vs : List T) : setIn x.t j vs = bnd (splice [.int .i64 x.thread, .int .i64 x.kind, .int .i64 x.obj, .int .i64 x.value, .int .i64 x.site, sl (x.deps.map (T.int .i64)), sl (x.frm.map (T.int .i64))] j vs) fun r => some (.agg r) := id rfl
@[simp] theorem NEvent.good_t : x.t.good = true := id rfl
@[simp] theorem NEvent.cn_t : cn x.t = x.t := by unfold NEvent.t NEvent.cs; simp [cn_agg]
@[simp] theorem NEvent.fzV_t : fzV h x.t = some x.t := by unfold NEvent.t NEvent.cs; simp
@[simp] theorem NEvent.fzD_t : fzD h (d + 2) x.t = some x.t := by unfold NEvent.t NEvent.cs; simp
@[simp] theorem NEvent.shut_t : shutB x.t = true := by unfold NEvent.t NEvent.cs; simp
@[simp] theorem NEvent.low_t : lowB x.t = true := by unfold NEvent.t NEvent.cs; simp
@[simp] theorem NEvent.fold (a0 : Int) (a1 : Int) (a2 : Int) (a3 : Int) (a4 : Int) (a5 : List Int) (a6 : List Int) : T.agg [.int .i64 a0, .int .i64 a1, .int .i64 a2, .int .i64 a3, .int .i64 a4, sl (a5.map (T.int .i64)), sl (a6.map (T.int .i64))] = NEvent.t ⟨a0, a1, a2, a3, a4, a5, a6⟩ := rfl
@[simp] theorem NEvent.eta : NEvent.mk x.thread x.kind x.obj x.value x.site x.deps x.frm = x := rfl
end
theorem NEvent.inj {x y : NEvent} (h : x.t = y.t) : x = y := by
  simp only [NEvent.t, NEvent.cs, T.agg.injEq, List.cons.injEq, T.int.injEq, T.bool.injEq, T.str.injEq, true_and, and_true] at h
  obtain ⟨h0, h1, h2, h3, h4, h5, h6⟩ := h
  replace h5 := slm_inj (fun a b h => by simpa using h) h5
  replace h6 := slm_inj (fun a b h => by simpa using h) h6
  obtain ⟨p0, p1, p2, p3, p4, p5, p6⟩ := x
  obtain ⟨q0, q1, q2, q3, q4, q5, q6⟩ := y
  simp only at h0 h1 h2 h3 h4 h5 h6
  subst h0 h1 h2 h3 h4 h5 h6
  rfl
end Go.Proofs.YtddpfdjgppabhaaGreatDoor
