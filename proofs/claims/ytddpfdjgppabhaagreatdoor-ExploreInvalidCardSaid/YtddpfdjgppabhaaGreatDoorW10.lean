/- Walks: explore of what is invalid; the law ExploreInvalid. -/
import Derived.Test.YtddpfdjgppabhaaGreatDoorW06k
import Derived.Test.YtddpfdjgppabhaaGreatDoorARun
set_option linter.unusedSimpArgs false
set_option linter.unusedVariables false
namespace Go.Proofs.YtddpfdjgppabhaaGreatDoor
open Go Go.TI
set_option linter.unusedVariables false
set_option linter.unusedSimpArgs false
set_option maxRecDepth 100000
attribute [-simp] List.map_take List.map_drop List.map_append
/-- No list of instructions is over long. -/
def NCode.sm (c : NCode) : Prop := ∀ x ∈ c.threads, x.instrs.length ≤ 4398046511104
/-- There is nothing to explore. -/
def badC (c : NCode) (d : Int) : Prop := d < 0 ∨ 14 < d ∨ codeB c = false
def zeroState : NState := ⟨⟨[], 0, [], []⟩, [], [], []⟩
@[simp] theorem hr_low (h : H) : (hr h).low = h.size := id rfl
@[simp] theorem good_func (f : FuncId) (cs : List T) : (T.func f cs).good = true := id rfl
@[simp] theorem cells_func (f : FuncId) (cs : List T) : (T.func f cs).cells = [.func f cs] := id rfl
@[simp] theorem good_map (b : Nat) : (T.map b).good = true := id rfl
@[simp] theorem cells_map (b : Nat) : (T.map b).cells = [.map b] := id rfl
@[simp] theorem good_nilm : T.nilm.good = true := id rfl
@[simp] theorem cells_nilm : T.nilm.cells = [.nilm] := id rfl
@[simp] theorem setIn_nilm (v : T) : setIn .nilm 0 [v] = some v := id rfl
/-! run.Start -/
def rStart : PRule := ⟨NCode, fun a => [a.t], fun a => a.sm ∧ codeB a = false, fun a => zeroState.t, fun a b h => rfl⟩
theorem okStart : rStart.Ok Tryz.prog cx 38 := by
  refine walkR (tb := ⟨pt [(69, rCode)], ht []⟩) mixed tysOk fn38 (fun a => 1) (by simp [rStart]) (by simp [rStart, Tryz.f38]) ?_
  rintro (c : NCode) ⟨hl, hc⟩ vs ha
  simp [rStart] at ha ⊢
  have hv := fun {tb : Tabs} (ht : tb.p 69 = some rCode) => cCode ht c hl
  simp [Tryz.f38, dl38, ha, hv, hc, zeroState]
  rfl
theorem cStart {tb : Tabs} (ht : tb.p 38 = some rStart) (c : NCode) (hl : c.sm) (hc : codeB c = false) : rl Tryz.prog cx tb 38 [c.t] = some zeroState.t := rl_of ht okStart c ⟨hl, hc⟩
/-! explore.visit -/
def hVisit : HRule := ⟨fun args h => Hp h ∧ ∃ (c : NCode) (d : Int) (f : Nat) (cap : List T), args = [c.t, .int .i64 d, .func f cap] ∧ c.sm ∧ badC c d, fun args h r h' => r = .tuple [] ∧ h' = h⟩
theorem fzt_nil (h : H) (n : Nat) : freezeTop h n (oneOrTuple []) = some (.tuple []) := rfl
theorem okVisit : hVisit.Ok Tryz.prog cx 12 := by
  refine walkHR (tb := ⟨pt [(38, rStart)], ht []⟩) mixed tysOk fn12 false (fun _ _ => 1) ?_ ?_
  · rintro args h ⟨_, c, d, f, cap, rfl, _⟩; simp [Tryz.f12]
  · rintro args h ⟨hp, c, d, f, cap, rfl, hl, hbad⟩ vs ha
    simp at ha
    obtain ⟨h0, h1, h2⟩ := ha
    have fin : ∀ h', Fr h.size (hr h) h' → Left0 false h [] h' fun r h' => r = .tuple [] ∧ h' = h := fun h' fr => leave_froze h h' [] hp fr (r := .tuple []) (by rw [fzt_nil]; rfl) ⟨rfl, rfl⟩
    by_cases c1 : d < 0
    · simp [Tryz.f12, dl12, h0, h1, h2, c1, hVisit]
      exact fin _ (Fr.cons (h := hr h) (Nat.le_refl h.size) _)
    · by_cases c2 : 14 < d
      · simp [Tryz.f12, dl12, h0, h1, h2, c1, c2, hVisit]
        exact fin _ (Fr.cons (h := hr h) (Nat.le_refl h.size) _)
      · have hc : codeB c = false := by
          rcases hbad with h | h | h
          · exact absurd h c1
          · exact absurd h c2
          · exact h
        have hst := fun {tb : Tabs} (ht : tb.p 38 = some rStart) => cStart ht c hl hc
        simp [Tryz.f12, dl12, h0, h1, h2, c1, c2, hst, hVisit, zeroState]
        exact fin _ ((Fr.cons (h := hr h) (Nat.le_refl h.size) _).trans (Fr.cons (by simp [H.cons]) _))
theorem cVisit {tb : Tabs} (ht : tb.h 12 = some hVisit) (c : NCode) (d : Int) (hsm : c.sm) (hb : badC c d) (f : Nat) (cap : List T) (h : H) (hp : Hp h) : hl Tryz.prog cx tb 12 [c.t, .int .i64 d, .func f cap] h = some (.tuple [], h) := by
  obtain ⟨r, h', e, h1, h2⟩ := hl_of ht okVisit (args := [c.t, .int .i64 d, .func f cap]) (h := h) ⟨hp, c, d, f, cap, rfl, hsm, hb⟩
  rw [e, h1, h2]
/-! sorting nothing -/
def hNone (args0 : List T) (r0 : T) : HRule := ⟨fun args h => Hp h ∧ ∃ (f : Nat) (cap : List T), args = args0 ++ [.func f cap], fun args h r h' => r = r0 ∧ h' = h⟩
theorem cNone {tb : Tabs} {g : Nat} {a : List T} {r : T} (hok : (hNone a r).Ok Tryz.prog cx g) (ht : tb.h g = some (hNone a r)) (f : Nat) (cap : List T) (h : H) (hp : Hp h) : hl Tryz.prog cx tb g (a ++ [.func f cap]) h = some (r, h) := by
  obtain ⟨r', h', e, h1, h2⟩ := hl_of ht hok (args := a ++ [.func f cap]) (h := h) ⟨hp, f, cap, rfl⟩
  rw [e, h1, h2]
def rLen0 : PRule := ⟨Unit, fun _ => [.int .u64 0], fun _ => True, fun _ => .int .i64 0, fun _ _ _ => rfl⟩
theorem okLen0 : rLen0.Ok Tryz.prog cx 78 := fun _ _ => pure78_1
theorem cLen0 {tb : Tabs} (ht : tb.p 78 = some rLen0) : rl Tryz.prog cx tb 78 [.int .u64 0] = some (.int .i64 0) := rl_of ht okLen0 () trivial
theorem fin0 {h : H} (hp : Hp h) (h' : H) (fr : Fr h.size (hr h) h') : Left0 false h [] h' fun r h' => r = .tuple [] ∧ h' = h := leave_froze h h' [] hp fr (r := .tuple []) (by rw [fzt_nil]; rfl) ⟨rfl, rfl⟩
theorem fin1 {h : H} (hp : Hp h) (h' : H) (fr : Fr h.size (hr h) h') : Left0 false h [.tree [] false] h' fun r h' => r = .ewild ∧ h' = h := leave_froze h h' _ hp fr (r := .ewild) rfl ⟨rfl, rfl⟩
theorem fin2 {h : H} (hp : Hp h) (h' : H) (fr : Fr h.size (hr h) h') : Left0 false h [.ewild] h' fun r h' => r = .ewild ∧ h' = h := leave_froze h h' _ hp fr (r := .ewild) rfl ⟨rfl, rfl⟩
theorem okInsA : (hNone [.tree [] false, .int .i64 0, .int .i64 0] (.tuple [])).Ok Tryz.prog cx 114 := by
  refine walkHR (tb := ⟨pt [], ht []⟩) mixed tysOk fn114 false (fun _ _ => 1) ?_ ?_
  · rintro args h ⟨_, f, cap, rfl⟩; simp [Tryz.f114]
  · rintro args h ⟨hp, f, cap, rfl⟩ vs ha
    simp at ha
    obtain ⟨h0, h1, h2, h3⟩ := ha
    have hadd := binop_add (a := 0) (b := 1) (by omega) (by omega)
    simp [Tryz.f114, dl114, h0, h1, h2, h3, hadd, hNone]
    refine W_each 0 (by omega) (fun k vs h' => h' = hr h ∧ TI.look vs 8 = some (.int .i64 1) ∧ TI.look vs 2 = some (.int .i64 0)) (fun k _ _ hk => absurd hk (by omega)) ?_ (by omega) (by simp [h2])
    rintro vs h' ⟨rfl, h8, h2⟩
    simp [h8, h2]
    exact fin0 hp _ (Fr.refl _ _)
theorem okPdqA : (hNone [.tree [] false, .int .i64 0, .int .i64 0, .int .i64 0] (.tuple [])).Ok Tryz.prog cx 77 := by
  refine walkHR (tb := ⟨pt [], ht [(114, hNone [.tree [] false, .int .i64 0, .int .i64 0] (.tuple []))]⟩) mixed tysOk fn77 false (fun _ _ => 1) ?_ ?_
  · rintro args h ⟨_, f, cap, rfl⟩; simp [Tryz.f77]
  · rintro args h ⟨hp, f, cap, rfl⟩ vs ha
    simp at ha
    obtain ⟨h0, h1, h2, h3, h4⟩ := ha
    have hsub := binop_sub (a := 0) (b := 0) (by omega) (by omega)
    have hc := fun {tb : Tabs} (ht : tb.h 114 = some (hNone [.tree [] false, .int .i64 0, .int .i64 0] (.tuple []))) (h : H) (hp : Hp h) => cNone okInsA ht f cap h hp
    simp only [List.cons_append, List.nil_append] at hc
    rw [show (hNone [.tree [] false, .int .i64 0, .int .i64 0, .int .i64 0] (.tuple [])).post = fun args h r h' => r = .tuple [] ∧ h' = h from rfl]
    simp [Tryz.f77, dl77, h0, h1, h2, h3, h4]
    refine W_each 0 (by omega) (fun k vs h' => h' = hr h ∧ TI.look vs 0 = some (.tree [] false) ∧ TI.look vs 1 = some (.int .i64 0) ∧ TI.look vs 2 = some (.int .i64 0) ∧ TI.look vs 4 = some (.func f cap)) (fun k _ _ hk => absurd hk (by omega)) ?_ (by omega) (by simp [h0, h1, h2, h4])
    rintro vs h' ⟨rfl, h0, h1, h2, h4⟩
    simp [h0, h1, h2, h4, hsub, hc, hp]
    exact fin0 hp _ (Fr.refl _ _)
theorem okSortA : (hNone [.tree [] false] (.tuple [])).Ok Tryz.prog cx 42 := by
  refine walkHR (tb := ⟨pt [(78, rLen0)], ht [(77, hNone [.tree [] false, .int .i64 0, .int .i64 0, .int .i64 0] (.tuple []))]⟩) mixed tysOk fn42 false (fun _ _ => 1) ?_ ?_
  · rintro args h ⟨_, f, cap, rfl⟩; simp [Tryz.f42]
  · rintro args h ⟨hp, f, cap, rfl⟩ vs ha
    simp at ha
    obtain ⟨h0, h1⟩ := ha
    have hc := fun {tb : Tabs} (ht : tb.h 77 = some (hNone [.tree [] false, .int .i64 0, .int .i64 0, .int .i64 0] (.tuple []))) (h : H) (hp : Hp h) => cNone okPdqA ht f cap h hp
    simp only [List.cons_append, List.nil_append] at hc
    have hcv : ∀ h : H, cvK cx h 3 163 ty163 (.int .i64 0) = some (.val (.int .u64 0) h) := fun h => cvK_int cxty163 rfl rfl
    rw [show (hNone [.tree [] false] (.tuple [])).post = fun args h r h' => r = .tuple [] ∧ h' = h from rfl]
    simp [Tryz.f42, dl42, h0, h1, hcv, cLen0, hc, hp]
    exact fin0 hp _ (Fr.refl _ _)
theorem okCompactA : (hNone [.tree [] false] .ewild).Ok Tryz.prog cx 43 := by
  refine walkHR (tb := ⟨pt [], ht []⟩) mixed tysOk fn43 false (fun _ _ => 1) ?_ ?_
  · rintro args h ⟨_, f, cap, rfl⟩; simp [Tryz.f43]
  · rintro args h ⟨hp, f, cap, rfl⟩ vs ha
    simp at ha
    obtain ⟨h0, h1⟩ := ha
    simp [Tryz.f43, dl43, h0, h1, hNone]
    exact fin1 hp _ (Fr.refl _ _)
theorem okDistinctA : (hNone [.tree [] false] .ewild).Ok Tryz.prog cx 16 := by
  refine walkHR (tb := ⟨pt [], ht [(42, hNone [.tree [] false] (.tuple [])), (43, hNone [.tree [] false] .ewild)]⟩) mixed tysOk fn16 false (fun _ _ => 1) ?_ ?_
  · rintro args h ⟨_, f, cap, rfl⟩; simp [Tryz.f16]
  · rintro args h ⟨hp, f, cap, rfl⟩ vs ha
    simp at ha
    obtain ⟨h0, h1⟩ := ha
    have hs := fun {tb : Tabs} (ht : tb.h 42 = some (hNone [.tree [] false] (.tuple []))) (f : Nat) (cap : List T) (h : H) (hp : Hp h) => cNone okSortA ht f cap h hp
    have hc := fun {tb : Tabs} (ht : tb.h 43 = some (hNone [.tree [] false] .ewild)) (f : Nat) (cap : List T) (h : H) (hp : Hp h) => cNone okCompactA ht f cap h hp
    simp only [List.cons_append, List.nil_append] at hs hc
    rw [show (hNone [.tree [] false] T.ewild).post = fun args h r h' => r = .ewild ∧ h' = h from rfl]
    simp [Tryz.f16, dl16, h0, h1, hs, hc, hp]
    exact fin2 hp _ (Fr.cons (h := hr h) (Nat.le_refl h.size) _)
theorem cDistinctA {tb : Tabs} (ht : tb.h 16 = some (hNone [.tree [] false] .ewild)) (f : Nat) (cap : List T) (h : H) (hp : Hp h) : hl Tryz.prog cx tb 16 [.tree [] false, .func f cap] h = some (.ewild, h) := cNone okDistinctA ht f cap h hp
theorem okInsB : (hNone [.tree [] false, .int .i64 0, .int .i64 0] (.tuple [])).Ok Tryz.prog cx 143 := by
  refine walkHR (tb := ⟨pt [], ht []⟩) mixed tysOk fn143 false (fun _ _ => 1) ?_ ?_
  · rintro args h ⟨_, f, cap, rfl⟩; simp [Tryz.f143]
  · rintro args h ⟨hp, f, cap, rfl⟩ vs ha
    simp at ha
    obtain ⟨h0, h1, h2, h3⟩ := ha
    have hadd := binop_add (a := 0) (b := 1) (by omega) (by omega)
    simp [Tryz.f143, dl143, h0, h1, h2, h3, hadd, hNone]
    refine W_each 0 (by omega) (fun k vs h' => h' = hr h ∧ TI.look vs 8 = some (.int .i64 1) ∧ TI.look vs 2 = some (.int .i64 0)) (fun k _ _ hk => absurd hk (by omega)) ?_ (by omega) (by simp [h2])
    rintro vs h' ⟨rfl, h8, h2⟩
    simp [h8, h2]
    exact fin0 hp _ (Fr.refl _ _)
theorem okPdqB : (hNone [.tree [] false, .int .i64 0, .int .i64 0, .int .i64 0] (.tuple [])).Ok Tryz.prog cx 88 := by
  refine walkHR (tb := ⟨pt [], ht [(143, hNone [.tree [] false, .int .i64 0, .int .i64 0] (.tuple []))]⟩) mixed tysOk fn88 false (fun _ _ => 1) ?_ ?_
  · rintro args h ⟨_, f, cap, rfl⟩; simp [Tryz.f88]
  · rintro args h ⟨hp, f, cap, rfl⟩ vs ha
    simp at ha
    obtain ⟨h0, h1, h2, h3, h4⟩ := ha
    have hsub := binop_sub (a := 0) (b := 0) (by omega) (by omega)
    have hc := fun {tb : Tabs} (ht : tb.h 143 = some (hNone [.tree [] false, .int .i64 0, .int .i64 0] (.tuple []))) (h : H) (hp : Hp h) => cNone okInsB ht f cap h hp
    simp only [List.cons_append, List.nil_append] at hc
    rw [show (hNone [.tree [] false, .int .i64 0, .int .i64 0, .int .i64 0] (.tuple [])).post = fun args h r h' => r = .tuple [] ∧ h' = h from rfl]
    simp [Tryz.f88, dl88, h0, h1, h2, h3, h4]
    refine W_each 0 (by omega) (fun k vs h' => h' = hr h ∧ TI.look vs 0 = some (.tree [] false) ∧ TI.look vs 1 = some (.int .i64 0) ∧ TI.look vs 2 = some (.int .i64 0) ∧ TI.look vs 4 = some (.func f cap)) (fun k _ _ hk => absurd hk (by omega)) ?_ (by omega) (by simp [h0, h1, h2, h4])
    rintro vs h' ⟨rfl, h0, h1, h2, h4⟩
    simp [h0, h1, h2, h4, hsub, hc, hp]
    exact fin0 hp _ (Fr.refl _ _)
theorem okSortB : (hNone [.tree [] false] (.tuple [])).Ok Tryz.prog cx 53 := by
  refine walkHR (tb := ⟨pt [(78, rLen0)], ht [(88, hNone [.tree [] false, .int .i64 0, .int .i64 0, .int .i64 0] (.tuple []))]⟩) mixed tysOk fn53 false (fun _ _ => 1) ?_ ?_
  · rintro args h ⟨_, f, cap, rfl⟩; simp [Tryz.f53]
  · rintro args h ⟨hp, f, cap, rfl⟩ vs ha
    simp at ha
    obtain ⟨h0, h1⟩ := ha
    have hc := fun {tb : Tabs} (ht : tb.h 88 = some (hNone [.tree [] false, .int .i64 0, .int .i64 0, .int .i64 0] (.tuple []))) (h : H) (hp : Hp h) => cNone okPdqB ht f cap h hp
    simp only [List.cons_append, List.nil_append] at hc
    have hcv : ∀ h : H, cvK cx h 3 163 ty163 (.int .i64 0) = some (.val (.int .u64 0) h) := fun h => cvK_int cxty163 rfl rfl
    rw [show (hNone [.tree [] false] (.tuple [])).post = fun args h r h' => r = .tuple [] ∧ h' = h from rfl]
    simp [Tryz.f53, dl53, h0, h1, hcv, cLen0, hc, hp]
    exact fin0 hp _ (Fr.refl _ _)
theorem okCompactB : (hNone [.tree [] false] .ewild).Ok Tryz.prog cx 54 := by
  refine walkHR (tb := ⟨pt [], ht []⟩) mixed tysOk fn54 false (fun _ _ => 1) ?_ ?_
  · rintro args h ⟨_, f, cap, rfl⟩; simp [Tryz.f54]
  · rintro args h ⟨hp, f, cap, rfl⟩ vs ha
    simp at ha
    obtain ⟨h0, h1⟩ := ha
    simp [Tryz.f54, dl54, h0, h1, hNone]
    exact fin1 hp _ (Fr.refl _ _)
theorem okDistinctB : (hNone [.tree [] false] .ewild).Ok Tryz.prog cx 27 := by
  refine walkHR (tb := ⟨pt [], ht [(53, hNone [.tree [] false] (.tuple [])), (54, hNone [.tree [] false] .ewild)]⟩) mixed tysOk fn27 false (fun _ _ => 1) ?_ ?_
  · rintro args h ⟨_, f, cap, rfl⟩; simp [Tryz.f27]
  · rintro args h ⟨hp, f, cap, rfl⟩ vs ha
    simp at ha
    obtain ⟨h0, h1⟩ := ha
    have hs := fun {tb : Tabs} (ht : tb.h 53 = some (hNone [.tree [] false] (.tuple []))) (f : Nat) (cap : List T) (h : H) (hp : Hp h) => cNone okSortB ht f cap h hp
    have hc := fun {tb : Tabs} (ht : tb.h 54 = some (hNone [.tree [] false] .ewild)) (f : Nat) (cap : List T) (h : H) (hp : Hp h) => cNone okCompactB ht f cap h hp
    simp only [List.cons_append, List.nil_append] at hs hc
    rw [show (hNone [.tree [] false] T.ewild).post = fun args h r h' => r = .ewild ∧ h' = h from rfl]
    simp [Tryz.f27, dl27, h0, h1, hs, hc, hp]
    exact fin2 hp _ (Fr.cons (h := hr h) (Nat.le_refl h.size) _)
theorem cDistinctB {tb : Tabs} (ht : tb.h 27 = some (hNone [.tree [] false] .ewild)) (f : Nat) (cap : List T) (h : H) (hp : Hp h) : hl Tryz.prog cx tb 27 [.tree [] false, .func f cap] h = some (.ewild, h) := cNone okDistinctB ht f cap h hp
/-! ranging over an empty map -/
noncomputable def rmK (h : H) (v : T) : Option Did := match v with
  | .map b => bnd (h.entries v) fun es => chk (mapLike es) (bnd (normNat (lenN es)) fun n => valNew (h.new (fun b => .iter b) ⟨1, 0, 0, true, true, [.map b, .int .i64 0, .int .i64 (.ofNat n), .int .i64 (.ofNat n)]⟩))
  | _ => none
theorem oH_rangeM {mask : Nat} {e : Env} {h : H} (t : TypeId) (ty : Ty) (k v : TypeId) (x : Operand) (ht : cx.ty t = some ty) (hu : ty.u = .map k v) : opH (.range t x) cx mask e h = bnd (opnd cx mask e x) fun x => rmK h x := by
  show hRangeAt t x cx mask e h = _
  unfold hRangeAt
  rw [ht, bnd_some, hu]
  rfl
@[simp] theorem rmK_nil (h : H) (b sz ep ver : Nat) (ex : Bool) (hg : h.get b = some ⟨sz, ep, ver, ex, true, []⟩) : rmK h (.map b) = some (.val (.iter h.size) (h.cons ⟨1, 0, 0, true, true, [.map b, .int .i64 0, .int .i64 0, .int .i64 0]⟩)) := by
  have he : h.entries (.map b) = some [] := by
    show (bnd (h.get b) fun bx => _) = _
    rw [hg]; rfl
  unfold rmK
  simp only [he, bnd_some]
  rfl
noncomputable def nmK (h : H) (v : T) : Option Did := match v with
  | .iter b => bnd (h.get b) fun x => chk x.it (match x.elems with
    | [.map mb, .int _ (.ofNat pos), .int _ (.ofNat since), .int _ (.ofNat _)] => bnd (h.entries (.map mb)) fun es => chk (mapLike es) <| chk (Nat.ble (lenN es) 1) <| chk (Nat.beq (lenN es) since)
        (Bool.casesOn (Nat.blt pos (lenN es)) (some (.val (.tuple [.bool false]) h))
          (bnd (nthD es pos) fun en => match en with
            | .tuple [k, u] => bnd (normNat (Nat.succ pos)) fun pos' => bnd (normNat (Nat.succ x.ver)) fun ver => bnd (normNat (lenN es)) fun n =>
              bnd (h.put b ⟨x.sz, x.ep, ver, x.exact, true, [.map mb, .int .i64 (.ofNat pos'), .int .i64 (.ofNat since), .int .i64 (.ofNat n)]⟩) fun h' => some (.val (.tuple [.bool true, k, u]) h')
            | _ => none))
    | _ => none)
  | _ => none
@[simp] theorem oH_nextM {mask : Nat} {e : Env} {h : H} (x : Operand) : opH (.next x false) cx mask e h = bnd (opnd cx mask e x) fun v => nmK h v := rfl
theorem nmK_nil (h : H) (b i sz ep ver sz' ep' ver' : Nat) (ex ex' : Bool) (hg : h.get i = some ⟨sz', ep', ver', ex', true, [.map b, .int .i64 0, .int .i64 0, .int .i64 0]⟩) (hb : h.get b = some ⟨sz, ep, ver, ex, true, []⟩) : nmK h (.iter i) = some (.val (.tuple [.bool false]) h) := by
  have he : h.entries (.map b) = some [] := by
    show (bnd (h.get b) fun bx => _) = _
    rw [hb]; rfl
  unfold nmK
  simp only [hg, bnd_some, chk_true]
  show (bnd (h.entries (.map b)) fun es => _) = _
  rw [he]; rfl
/-! what is found in what is invalid -/
def rBad (r : T) : PRule := ⟨NCode × Int, fun a => [a.1.t, .int .i64 a.2], fun a => a.1.sm ∧ badC a.1 a.2, fun _ => r, fun _ _ _ => rfl⟩
theorem okCount : (rBad (.int .i64 0)).Ok Tryz.prog cx 5 := by
  refine walkR (tb := ⟨pt [], ht [(12, hVisit)]⟩) mixed tysOk fn5 (fun a => 1) (by simp [rBad]) (by simp [rBad, Tryz.f5]) ?_
  rintro ⟨c, d⟩ ⟨hsm, hbad⟩ vs ha
  simp [rBad] at ha ⊢
  obtain ⟨h0, h1⟩ := ha
  have hv := fun {tb : Tabs} (ht : tb.h 12 = some hVisit) => cVisit ht c d hsm hbad
  simp [Tryz.f5, dl5, h0, h1, hv]
theorem okDeadlocks : (rBad .ewild).Ok Tryz.prog cx 7 := by
  refine walkR (tb := ⟨pt [], ht [(12, hVisit)]⟩) mixed tysOk fn7 (fun a => 1) (by simp [rBad]) (by simp [rBad, Tryz.f7]) ?_
  rintro ⟨c, d⟩ ⟨hsm, hbad⟩ vs ha
  simp [rBad] at ha ⊢
  obtain ⟨h0, h1⟩ := ha
  have hv := fun {tb : Tabs} (ht : tb.h 12 = some hVisit) => cVisit ht c d hsm hbad
  simp [Tryz.f7, dl7, h0, h1, hv]
theorem okOutcomes : (rBad .ewild).Ok Tryz.prog cx 8 := by
  refine walkR (tb := ⟨pt [], ht [(12, hVisit), (27, hNone [.tree [] false] .ewild)]⟩) mixed tysOk fn8 (fun a => 1) (by simp [rBad]) (by simp [rBad, Tryz.f8]) ?_
  rintro ⟨c, d⟩ ⟨hsm, hbad⟩ vs ha
  simp [rBad] at ha ⊢
  obtain ⟨h0, h1⟩ := ha
  have hv := fun {tb : Tabs} (ht : tb.h 12 = some hVisit) => cVisit ht c d hsm hbad
  simp [Tryz.f8, dl8, h0, h1, hv, cDistinctB]
theorem okRaces : (rBad .ewild).Ok Tryz.prog cx 6 := by
  refine walkR (tb := ⟨pt [], ht [(12, hVisit), (16, hNone [.tree [] false] .ewild)]⟩) mixed tysOk fn6 (fun a => 1) (by simp [rBad]) (by simp [rBad, Tryz.f6]) ?_
  rintro ⟨c, d⟩ ⟨hsm, hbad⟩ vs ha
  simp [rBad] at ha ⊢
  obtain ⟨h0, h1⟩ := ha
  have hv := fun {tb : Tabs} (ht : tb.h 12 = some hVisit) => cVisit ht c d hsm hbad
  simp [Tryz.f6, dl6, h0, h1, hv, mmK_map ty58 _ _ rfl, oH_rangeM 58 ty58 _ _ _ cxty58 rfl]
  have hrm : rmK (((hE.cons ⟨7, 0, 0, true, false, [c.t]⟩).cons ⟨0, 0, 0, true, true, []⟩).cons ⟨1, 0, 1, true, false, [.map 1]⟩) (.map 1) = some (.val (.iter 3) ((((hE.cons ⟨7, 0, 0, true, false, [c.t]⟩).cons ⟨0, 0, 0, true, true, []⟩).cons ⟨1, 0, 1, true, false, [.map 1]⟩).cons ⟨1, 0, 0, true, true, [.map 1, .int .i64 0, .int .i64 0, .int .i64 0]⟩)) := rmK_nil _ 1 0 0 0 true (by simp)
  simp [hrm]
  refine W_each 0 (by omega) (fun k vs h' => h' = (((hE.cons ⟨7, 0, 0, true, false, [c.t]⟩).cons ⟨0, 0, 0, true, true, []⟩).cons ⟨1, 0, 1, true, false, [.map 1]⟩).cons ⟨1, 0, 0, true, true, [.map 1, .int .i64 0, .int .i64 0, .int .i64 0]⟩ ∧ TI.look vs 6 = some (.tree [] false) ∧ TI.look vs 14 = some (.iter 3)) (fun k _ _ hk => absurd hk (by omega)) ?_ (by omega) (by simp)
  rintro vs h' ⟨rfl, h6, h14⟩
  have hnm := nmK_nil ((((hE.cons ⟨7, 0, 0, true, false, [c.t]⟩).cons ⟨0, 0, 0, true, true, []⟩).cons ⟨1, 0, 1, true, false, [.map 1]⟩).cons ⟨1, 0, 0, true, true, [.map 1, .int .i64 0, .int .i64 0, .int .i64 0]⟩) 1 3 0 0 0 1 0 0 true true (by simp) (by simp)
  simp [h6, h14, hnm, cDistinctA]
/-! the law -/
def rAwake : PRule := ⟨Unit, fun _ => [], fun _ => True, fun _ => .bool true, fun _ _ _ => rfl⟩
theorem okAwake : rAwake.Ok Tryz.prog cx 9 := fun _ _ => pure9_0
theorem cAwake {tb : Tabs} (ht : tb.p 9 = some rAwake) : rl Tryz.prog cx tb 9 [] = some (.bool true) := rl_of ht okAwake () trivial
def rLaw : PRule := ⟨NCode × Int, fun a => [a.1.t, .int .i64 a.2], fun a => a.1.sm, fun _ => .bool true, fun _ _ _ => rfl⟩
theorem okLaw : rLaw.Ok Tryz.prog cx 3 := by
  refine walkR (tb := ⟨pt [(4, rCode), (5, rBad (.int .i64 0)), (6, rBad .ewild), (7, rBad .ewild), (8, rBad .ewild), (9, rAwake)], ht []⟩) mixed tysOk fn3 (fun a => 1) (by simp [rLaw]) (by simp [rLaw, Tryz.f3]) ?_
  rintro ⟨c, d⟩ hsm vs ha
  simp [rLaw] at ha ⊢
  obtain ⟨h0, h1⟩ := ha
  have hv := fun {tb : Tabs} (ht : tb.p 4 = some rCode) => cCode06 ht c hsm
  by_cases hbad : badC c d
  · have k1 := fun {tb : Tabs} (ht : tb.p 5 = some (rBad (.int .i64 0))) => rl_of ht okCount (c, d) ⟨hsm, hbad⟩
    have k2 := fun {tb : Tabs} (ht : tb.p 6 = some (rBad .ewild)) => rl_of ht okRaces (c, d) ⟨hsm, hbad⟩
    have k3 := fun {tb : Tabs} (ht : tb.p 7 = some (rBad .ewild)) => rl_of ht okDeadlocks (c, d) ⟨hsm, hbad⟩
    have k4 := fun {tb : Tabs} (ht : tb.p 8 = some (rBad .ewild)) => rl_of ht okOutcomes (c, d) ⟨hsm, hbad⟩
    replace k1 : ∀ {tb : Tabs}, tb.p 5 = some (rBad (.int .i64 0)) → rl Tryz.prog cx tb 5 [c.t, .int .i64 d] = some (.int .i64 0) := k1
    replace k2 : ∀ {tb : Tabs}, tb.p 6 = some (rBad .ewild) → rl Tryz.prog cx tb 6 [c.t, .int .i64 d] = some .ewild := k2
    replace k3 : ∀ {tb : Tabs}, tb.p 7 = some (rBad .ewild) → rl Tryz.prog cx tb 7 [c.t, .int .i64 d] = some .ewild := k3
    replace k4 : ∀ {tb : Tabs}, tb.p 8 = some (rBad .ewild) → rl Tryz.prog cx tb 8 [c.t, .int .i64 d] = some .ewild := k4
    by_cases c1 : 0 ≤ d
    · by_cases c2 : d ≤ 14
      · have hc : codeB c = false := by
          rcases hbad with h | h | h
          · omega
          · omega
          · exact h
        simp [Tryz.f3, dl3, h0, h1, c1, c2, hv, hc, k1, k2, k3, k4, cAwake]
      · simp [Tryz.f3, dl3, h0, h1, c1, c2, hv, k1, k2, k3, k4, cAwake]
    · simp [Tryz.f3, dl3, h0, h1, c1, hv, k1, k2, k3, k4, cAwake]
  · have h1' : 0 ≤ d ∧ d ≤ 14 ∧ codeB c = true := by
      unfold badC at hbad
      refine ⟨by omega, by omega, ?_⟩
      cases h : codeB c with
      | true => rfl
      | false => exact absurd (.inr (.inr h)) hbad
    obtain ⟨c1, c2, c3⟩ := h1'
    simp [Tryz.f3, dl3, h0, h1, c1, c2, hv, c3]
end Go.Proofs.YtddpfdjgppabhaaGreatDoor
